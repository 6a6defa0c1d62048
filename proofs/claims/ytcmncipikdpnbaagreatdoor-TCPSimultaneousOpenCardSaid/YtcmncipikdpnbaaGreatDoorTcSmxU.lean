import Derived.Test.YtcmncipikdpnbaaGreatDoorTcSmvU
namespace Go.Proofs.YtcmncipikdpnbaaGreatDoor
theorem Ow {x:Rw}{w:Bool}{c:Cn}(k:AH x w c){s:Sg}(a:Of x (!w) s)(T:Int):c.receive T s=(gA T c).receive T s:=by
 have hi:=eK x (!w);have l:=eK x w;obtain⟨g,h,-⟩:=DG x w;obtain⟨-,b,-⟩:=DG x (!w);obtain⟨i,f2,f3⟩:=a.f;have e:=a.ak;rw[LF]at b e;refine rj k.st k.sc k.base ⟨i,f2,f3⟩ (by rw[a.pt.1,a.pt.2,k.cf];exact⟨b,h.symm⟩) ?_ ?_
 ·rw[k.cf,g,e];unfold aE aw;omega
 have off:c.offset s.sq=0:=by
  unfold Cn.offset;rw[k.tq,a.sq];unfold aE aw;omega
 have nx:c.bx.nx=0:=by rw[k.bx];rfl
 have ex:c.expected=0:=by unfold Cn.expected Cn.reached;rw[k.en,nx];rfl
 have j:aj s=0:=by unfold aj;rw[a.d,f2,a.fin];rfl
 rw[off,j];unfold Cn.accepts;rw[ex,L7 ⟨Z,Z⟩]
theorem DI.Oq {x:Rw}{w:Bool}{s r:Cn}(T f:Int)(ks:AH x w s)(kr:AH x (!w) r){α β:Sg}(ha:Of x w α)(l:Of x (!w) β)(N:Int):DI (gA T s) (gA f r) [α] [β] 1 N:=by
 obtain⟨q,-,-⟩:=DG x w;have hi:=eK x w;have y:=zi x (!w);have e:=kr.tq;have m:=l.ak;rw[LF]at e m;have a:s.cf.kc=(cG x).kc w:=by rw[ks.cf,q]
 have nx:r.bx.nx=0:=by rw[kr.bx];rfl
 have t:(gA f r).reached=false:=by show(r.ended&&_)=false;rw[kr.en];rfl
 have ex:(gA f r).expected=0:=by unfold Cn.expected;rw[t];exact nx
 have i:fY s.cf.kc α=1:=by unfold fY;rw[a,ha.sq];exact pp _ D D
 have u:iL s.cf.kc β=1:=by unfold iL;rw[a,m];exact pp _ D D
 have j:(gA f r).ann=(cG x).r (!w):=kr.ann;have n:(gA T s).limit=1+(cG x).r (!w):=ks.lim;have b:(gA T s).fM=1:=Z;have c:(gA T s).next=1:=Z;have p:(gA T s).cf=s.cf:=Z;refine⟨?_,fun g k=> ?_,fun g k=> ?_,List.pairwise_singleton _ _,?_,?_,fun _=> ?_,fun o h1 h2=> ?_,?_,fun _=> ?_,fun o h=> ?_,fun h=> ?_⟩
 ·show r.tq=s.cf.kc;rw[e,a]
 ·rw[Lu.1 k,p];exact⟨by rw[i,a];exact ha.sq,by rw[i];decide,by rw[i,ha.d,c];show(1:Int)+(0:Nat)+(if α.fin=true then 1 else 0)<=1;rw[ha.fin];decide,.inr ⟨ha.d,ha.fin⟩⟩
 ·rw[Lu.1 k,p];rw[u,b,ex,l.win,j];exact⟨D,D,fun _=>by omega⟩
 ·rw[b,ex];decide
 ·rw[c,ex];decide
 ·rw[n,j];omega
 ·rw[c]at h2;omega
 ·rw[b,ex];exact .inl Z
 ·rw[n,j];exact .inl O
 ·have h:r.bx.has o:=h;rw[kr.bx]at h;exact absurd h (ud _ _)
 have h:r.ended=true:=h;rw[kr.en]at h
 cases h
def Vb (A B:Int)(p:Pr):Pr:=pz false A (pz true B p)
theorem BR (A B:Int)(p:Pr):((Vb A B p).sd false).c=gA A (p.sd false).c/\((Vb A B p).sd true).c=gA B (p.sd true).c/\(∀i,((Vb A B p).sd i).str=(p.sd i).str/\((Vb A B p).sd i).closed=(p.sd i).closed/\((Vb A B p).sd i).got=(p.sd i).got/\((Vb A B p).sd i).all=(p.sd i).all)/\(Vb A B p).wire=p.wire/\(Vb A B p).now=p.now/\(Vb A B p).kq=p.kq/\(Vb A B p).many=p.many:=⟨Z,Z,fun i=>by cases i <;> exact⟨Z,Z,Z,Z⟩,Z,Z,Z,Z⟩
theorem Hw.both {x:Rw}{N:Bool->Int}{u Q:List Fl}{T:Int}{r:Pr}{a b:Int}(A B:Int)(h:Hw (qF x) u T r){α β:Fl}(m:Q++u=[α,β])(n:α.dst=true)(bd:β.dst=false)(ha:Of x false α.s)(l:Of x true β.s)(pv:Pr.PV (cG x) r)(C:Pr.Fit r a b)(f2:Fb r N)(ok:∀f∈[α,β],f.s.Ok)(E:∀f∈Q,GS (Pr.kx (cG x) r (!f.dst)) f.s/\fj (Pr.kx (cG x) r f.dst) f.s):Cl (cG x) (Vb A B r) Q (fun _=>1) N (Vb A B r).Q (Vb A B r).R:=by
 have kA:=(h.b false).wx (Oh x false);have kB:=(h.b true).wx (Oh x true);obtain⟨g,k,o,p,I,F,G⟩:=BR A B r
 have w:jb true (Q++(Vb A B r).wire)=[α.s]:=by
  rw[p,h.wire,m];unfold jb
  simp[n,bd]
 have y:jb false (Q++(Vb A B r).wire)=[β.s]:=by
  rw[p,h.wire,m];unfold jb
  simp[n,bd]
 have t:∀i,((Vb A B r).sd i).c.cf=Cb x i:=fun i=>by
  cases i
  ·rw[g];exact kA.cf
  rw[k];exact kB.cf
 have z:∀i,Pr.kx (cG x) (Vb A B r) i=Pr.kx (cG x) r i:=fun i=>by cases i <;> rfl
 refine⟨PV.vw (PV.vw pv kB.wb B) (show Wb ((pz true B r).sd false).c from kA.wb) A,Fit.vw (Fit.vw C true B) false A,fun i=> ?_,⟨fun j q=> ?_,fun j=> ?_,f2.sm⟩,by rw[F,G];exact h.calm,fun i=> ?_,fun i=> ?_,fun f d=> ?_,fun i=> ?_,fun f d=> ?_⟩
 ·cases i
  ·show DI ((Vb A B r).sd false).c ((Vb A B r).sd true).c (jb true _) (jb false _) 1 _;rw[w,y,g,k];exact DI.Oq A B kA kB ha l _
  show DI ((Vb A B r).sd true).c ((Vb A B r).sd false).c (jb false _) (jb true _) 1 _;rw[w,y,g,k];exact DI.Oq B A kB kA l ha _
 ·rw[(o j).1];rw[(o j).2.1]at q;exact f2.cl j q
 ·rw[(o j).1];exact f2.le j
 ·cases i
  ·rw[g];exact(kA.sx A (L9 0)).2.2
  rw[k];exact(kB.sx B (L9 0)).2.2
 ·cases i
  ·rw[g];exact(kA.sx A (L9 0)).2.1
  rw[k];exact(kB.sx B (L9 0)).2.1
 ·rw[p,h.wire,m]at d;have e:=ok f d;unfold rW;rw[t]
  rcases Mi.1 d with rfl | d
  ·rw[n];exact⟨e,ha.f,ha.pt⟩
  rw[Lu.1 d]at e|-;rw[bd];exact⟨e,l.f,l.pt⟩
 ·rw[t,t];exact(DG x i).2.1
 rw[z,z];exact E f d
theorem Hw.rd {x:Rw}{a:List Fl}{T:Int}{r:Pr}(h:Hw (qF x) a T r)(A B:Int)(i:Bool):Rd (cG x) (Vb A B r) i:=by
 have k:=(h.b i).wx (Oh x i);have j:=zi x i;obtain⟨d,f,g,-⟩:=BR A B r
 have e:((Vb A B r).sd i).c.bx=(r.sd i).c.bx/\((Vb A B r).sd i).c.ann=(r.sd i).c.ann:=by
  cases i
  ·rw[d];exact⟨Z,Z⟩
  rw[f];exact⟨Z,Z⟩
 refine .inr ?_;rw[(g i).2.2.1,h.got,e.1,e.2,k.bx,k.ann];refine⟨Z,?_⟩;show((0:Nat):Int)+(cG x).r i<(cG x).r i+max 1 ((cG x).r i/2);omega
theorem Hw.Om {x:Rw}{N:Bool->Int}{T U:Int}{r:Pr}{n:Int}{α β:Fl}(hU:U=T+1)(hT:0<=T/\T<=8)(h:Hw (qF x) [α,β] T r)(j:α.dst=true/\α.held=false/\α.due<=U)(bd:β.dst=false/\β.held=false/\β.due<=U)(ha:Of x false α.s)(A:Of x true β.s)(g:Ga (cG x) N r n):E2 (cG x) N r.tick\/(Tn (cG x) r.tick (fun _=>1) N/\∀i,tQ (r.tick.sd i).c):=by
 have kA:=(h.b false).wx (Oh x false);have kB:=(h.b true).wx (Oh x true);have a6:=h.now;have m:=h.wire;obtain⟨t,u,B,G,y,s6,s7⟩:=BR U U r;have ok:∀f∈[α,β],f.s.Ok:=fun f a=>g.al.run.1.wire f (by rw[m];exact a);have cl:=h.both (N:=N) U U (Q:=[]) Z j.1 bd.1 ha A g.al.pv g.al.run.1 g.f2 ok (fun f a=>by cases a);have rd:=fun i=>h.rd U U i
 have I:∀i,((Vb U U r).sd i).c.cf=Cb x i:=fun i=>by
  cases i
  ·rw[t];exact kA.cf
  rw[u];exact kB.cf
 have hw:∀f∈r.wire,f.held=false/\f.due<=r.now+1:=fun f a=>by
  rw[m]at a
  rcases Mi.1 a with rfl | a
  ·exact⟨j.2.1,by have:=j.2.2;omega⟩
  rw[Lu.1 a];exact⟨bd.2.1,by have:=bd.2.2;omega⟩
 have J:Tn (cG x) (Vb U U r) (fun _=>1) N:=by
  refine⟨⟨_,_,cl⟩,fun i=> ?_,fun i=> ?_,fun f a=> ?_,fun i=> ?_,fun i=>⟨(zi x i).1,by rw[I];exact(DG x i).2.2⟩,fun i=>by rw[(B i).2.2.2];exact g.all i,fun i q=> ?_⟩
  ·rw[y]
   cases i
   ·rw[t];exact(kA.sx U O).1
   rw[u];exact(kB.sx U O).1
  ·cases i
   ·rw[t];exact fun q=>by cases q
   rw[u];exact fun q=>by cases q
  ·rw[G]at a;rw[y];exact hw f a
  ·rcases rd i with k | ⟨-,k⟩
   ·exact .inl k
   exact .inr fun _=>k
  rw[(B i).2.1]at q
  cases i
  ·rw[t];exact h.cs false q
  rw[u];exact h.cs true q
 have o:=J.tick (eK x) rd (by rw[y];omega)
 -- the same tick
 have C:=q1z (w:=true) (T:=U) (p:=r) (S:=[]) (fun k l=>by cases l) hw m j.1 (by rw[show r.now+1=U by omega];exact Ow kB ha U);have K:({ (pz true U r)with wire:=[]++r.wire }:Pr)=pz true U r:=Z;have L:({ r with wire:=[]++r.wire }:Pr)=r:=Z;rw[K,L]at C;obtain⟨e,d⟩:∃e:Pr,e={ (pz true U r)with wire:=[β] }:=⟨_,Z⟩;have z:e.now=r.now:=by rw[d];rfl
 have E:e.wire=[β]:=by rw[d]
 have M:e.sd false=r.sd false:=by rw[d];rfl
 have F:=q1z (w:=false) (T:=U) (p:=e) (S:=[α]) (W:=[]) (f:=β) (fun k l=>by rw[Lu.1 l,z];exact⟨j.1,j.2.1,by have:=j.2.2;omega⟩) (fun k l=>by
  rw[E]at l;rw[Lu.1 l,z];exact⟨bd.2.1,by have:=bd.2.2;omega⟩) E bd.1 (by rw[z,M,show r.now+1=U by omega];exact Ow kA A U)
 have P:({ (pz false U e)with wire:=[α]++e.wire }:Pr)=Vb U U r:=by
  have:r.wire=[α]++[β]:=m;rw[d];show({ (Vb U U r)with wire:=[α]++[β] }:Pr)=_;rw[<-this];rfl
 have V:({ e with wire:=[α]++e.wire }:Pr)=pz true U r:=by
  have:r.wire=[α]++[β]:=m;rw[d];show({ (pz true U r)with wire:=[α]++[β] }:Pr)=_;rw[<-this];rfl
 rw[P,V]at F;rw[F,C]at o
 rcases o with k | ⟨X,k2,-,-⟩
 ·exact .inl k
 exact .inr ⟨X,k2⟩
end Go.Proofs.YtcmncipikdpnbaaGreatDoor
