import Derived.Test.YtcmncipikdpnbaaGreatDoorUb37
namespace Go.Proofs.YtcmncipikdpnbaaGreatDoor
theorem Cs.trans {c d e:Cn}{l m:List Sg}(h:Cs c d l)(k:Cs d e m):Cs c e (l++m):=by
 have h1:=h.nx;have h2:=k.nx;refine⟨k.gi.trans h.gi,O,k.held.trans h.held,k.base.trans h.base,k.lim.trans h.lim,k.De.trans h.De,k.shut.trans h.shut,k.cf.trans h.cf,k.st.trans h.st,k.go.trans h.go,fun o a b j=> ?_,fun s hs=> ?_⟩
 ·by_cases n:o<d.next
  ·obtain⟨s,hs,g⟩:=h.GQ o a n j;exact⟨s,LR _ hs,g⟩
  obtain⟨s,hs,lo,g1,f,i,p⟩:=k.GQ o O b (by rw[h.last];exact j);exact⟨s,Mq _ hs,lo,K8,f,i,by rw[<-h.lim];exact p⟩
 rcases LH.1 hs with hs | hs
 ·obtain⟨lo,g1,f,i⟩:=h.GH s hs;exact⟨lo,g1,f,O⟩
 obtain⟨lo,g1,f,i⟩:=k.GH s hs;exact⟨lo,K8,by rw[<-h.gi];exact f,i⟩
structure Op (K:Prop)(c d:Cn)(l:List Sg)(now:Int):Prop where
 sv:SV c d l
 rv:RV c d l now
 gi:d.gi=c.gi
 lim:d.limit=c.limit
 has:∀i,d.bx.has i↔c.bx.has i
 exp:d.expected=c.expected
 hs:Hs d
 st:d.st=c.st\/3<=d.st
 xv:XV K c d now
 De:d.largest=c.largest
theorem Op.of {K:Prop}{c e:Cn}{now:Int}(p:Pre K c e now)(d:aI now)(ok:e.Ok)(so:ae e.st=true->Fu e)(hs:Hs e)(h0:e.st≠0)(a:e.st=c.st\/3<=e.st)(f:e.gi=c.gi)(g:e.limit=c.limit)(h:∀i,e.bx.has i↔c.bx.has i)(j:e.expected=c.expected)(k:e.largest=c.largest):Op K c (e.push now).1 (e.push now).2 now:=by
 obtain⟨g1,l,m,n,s,o,q,t,r,b⟩:=p.push ok d h0 so;exact⟨g1,l,m.trans f,n.trans g,fun i=>(o i).trans (h i),q.trans j,hs.push now,by rw[dL];exact a,r,b.trans k⟩
theorem Op.none {c:Cn}{now:Int}(h:Hs c)(d:c.pend≠2):Op True c c [] now :=
 ⟨⟨Lb _,Lb _,Lb _,Lb _,Z,fun o a b=>by omega,fun s hs=>by cases hs⟩,⟨fun _ h=>h,Lb _,Z,d,.inl ⟨Z,Z,.inl ⟨Z,Z,Z⟩⟩⟩,Z,Z,fun _=>NM,Z,h,.inl Z,.refl c now,Z⟩
theorem Hv.so {c:Cn}{N:Int}(h:Hv c N)(h1:1<=c.gi):Fu c:=⟨h1,by have:=h.bu;omega,h.nl⟩
theorem jW {K:Prop}{c x:Cn}{now:Int}(b:aI now)(p:Pre K c x now)(ok:x.Ok)(so:Fu x)(hs:Hs x)(h0:x.st≠0)(a:x.st=c.st)(d:x.gi=c.gi)(e:x.limit=c.limit)(f:x.bx=c.bx)(g:x.expected=c.expected)(h:x.largest=c.largest):Op K c (x.sg now []).1 (x.sg now []).2 now:=by
 unfold Cn.sg;dsimp only;rw[LG];split
 ·exact Op.of p.i2 b ok.i2 (fun _=>⟨so.u1,so.bu,so.nl⟩) ⟨hs.ov,hs.vo,hs.st,hs.ts⟩ h0 (.inl a) d e (fun i=>by show x.bx.has i↔_;rw[f]) g h
 exact Op.of p b ok (fun _=>so) hs h0 (.inl a) d e (fun i=>by rw[f]) g h
theorem AZ {c:Cn}{N:Int}(h:Hv c N)(hu:1<=c.gi){now:Int}(t:aI now)(G:3<=c.st)(ht:c.tries<=11)(hz:c.flight<=0->0<c.kc->c.next+20<=c.limit) :
  (c.st=9/\(c.tick now).1.st=0/\(c.tick now).1.reached=true)\/Op (c.dl.due now=false) c (c.tick now).1 (c.tick now).2 now:=by
 have ok:=h.ok;have L:=ok.st;have so:=h.so hu;have hs:=h.hs;unfold Cn.tick;rw[L7 O];split
 ·rename_i h9;refine .inl ⟨h9.1,dA c now _ (.inr Z),?_⟩;rw[cr (cU c now 9 0)];exact h.ov (h.st O)
 refine .inr ?_;split
 ·rename_i f;dsimp only;rw[L7 O];have an:bf c.st=true:=Le ⟨G,L.2⟩;rw[show(if bf c.st=true then(Cn.expire { c with tries:=c.tries+1,tm:=c.tm.rl.kf,dl:=.Ck now c.tm.rl.kf.value }).1.sg now (Cn.expire { c with tries:=c.tries+1,tm:=c.tm.rl.kf,dl:=.Ck now c.tm.rl.kf.value }).2 else(({ c with tries:=c.tries+1,tm:=c.tm.rl.kf,dl:=.Ck now c.tm.rl.kf.value }:Cn).Cc,[({ c with tries:=c.tries+1,tm:=c.tm.rl.kf,dl:=.Ck now c.tm.rl.kf.value }:Cn).x7]))=(Cn.expire { c with tries:=c.tries+1,tm:=c.tm.rl.kf,dl:=.Ck now c.tm.rl.kf.value }).1.sg now (Cn.expire { c with tries:=c.tries+1,tm:=c.tm.rl.kf,dl:=.Ck now c.tm.rl.kf.value }).2 from L9 an];obtain⟨e,he⟩:∃e:Cn,e={ c with tries:=c.tries+1,tm:=c.tm.rl.kf,dl:=.Ck now c.tm.rl.kf.value }:=⟨_,Z⟩;have b4:0<=c.tm.backs:=ok.tm.1.2.2.2.2.1;have l:e.Ok:=by rw[he];exact ok.back t (O:¬12<c.tries+1)
  rw[<-he]
  have u:Pre (c.dl.due now=false) c e now:=by
   rw[he];refine⟨Lb _,Z,Lb _,Lb _,Z,fun _ h=>h,Lb _,Z,Z,.inr (.inl ⟨Z,Z,Z⟩),Lb _,id,fun g=>⟨g.sf,g.fa,g.ub⟩,fun g _ _ _=>(by rw[f]at g;cases g),fun g=> ?_,fun _ _=>by have h1:=(ln (m:=c.tm.rl.kf) (k:=0) (fun a=>absurd a D)).1;show now<now+c.tm.rl.kf.value;have h2:rV 0=4:=Z;omega⟩
   -- the next wait
   unfold Al.due at f;simp only[LD,Lj]at f;have h1:=g.dl f.1;have h2:=nE g.t0
   have G:0<c.tries+1->min (c.tries+1) 8<=c.tm.rl.kf.backs:=fun _=>by
    have M:=g.bk;have h5:=g.t0;have h6:=b4;show _<=min (c.tm.backs+1) 8;omega
   have M:=ln G;exact⟨by show 0<=c.tries+1;have:=g.t0;omega,G,by show AY (c.tries+1)<=now;omega,fun _=>⟨by show AY (c.tries+1)<=now;omega,M.1,Lb _,M.2⟩⟩
  have w:Fu e:=by rw[he];exact⟨so.u1,so.bu,so.nl⟩
  have y:Hs e:=by rw[he];exact⟨hs.ov,hs.vo,hs.st,hs.ts⟩
  have A:e.sc=c.sc/\e.st=c.st/\e.bx=c.bx/\e.limit=c.limit/\e.expected=c.expected/\e.go=c.go/\e.last=c.last/\e.ann=c.ann/\e.room=c.room/\e.largest=c.largest:=by rw[he];exact⟨Z,Z,Z,Z,Z,Z,Z,Z,Z,Z⟩
  obtain⟨A,f2,f3,z,I,f6,P,f8,f9,x⟩:=A;have B:e.gi=c.gi:=by unfold Cn.gi;rw[A]
  have fn:e.next=c.next:=by unfold Cn.next;rw[A]
  have S:e.kc=c.kc:=by unfold Cn.kc;rw[P,fn]
  have q:=l.expire;unfold Cn.expire at q|-;have T:e.flight=c.flight:=by unfold Cn.flight;rw[A]
  have bl:e.st≠0:=O
  split
  ·rename_i J;rw[L9 J]at q;refine jW t ?_ q ⟨w.u1,w.bu,w.nl⟩ ⟨y.ov,y.vo,y.st,y.ts⟩ (by show e.st≠0;omega) f2 B z f3 I x;exact u.trans ⟨Lb _,Z,Lb _,Lb _,Z,fun _ h=>h,Lb _,Z,Z,.inr (.inl ⟨Z,Z,Z⟩),.same now Z Z Z Z Z Z Z Z Z⟩
  rename_i J;rw[L7 J]at q;split
  ·exact jW t u l w y bl f2 B z f3 I x
  rename_i hq;rw[L7 hq]at q;have U:=l.kc;have V:0<e.kc:=by have h1:=U.1;rcases MA 0 e.kc with g | g;exact g;exact absurd O hq
  have a2:=hz (by rw[<-T];exact MS.1 J) (by rw[<-S];exact V);have a5:=l.go;have b5:e.kc=max 0 (e.last-e.next):=Z;obtain⟨n,C⟩:∃n,n=max 1 (min (min e.go (e.limit-e.next)) e.kc):=⟨_,Z⟩;rw[<-C]at q|-;have K:1<=n/\e.next+n<=e.last/\e.next+n<=e.limit:=by rw[fn,z]at *;omega
  have bn:e.base<=e.next:=by have:=w.bu;have:=l.gi;omega
  have s1:=(Cs.refl e).out l bn now (n:=n) O K.2.1 (fun _=>K.2.2);have a1:=(Said.refl e).more (eZ l) { dE with s:=e.data e.next (e.ms n),fin:=e.shut&&decide (e.last<e.ms n) } e.next Z Z (e.qa n) (ic e n) ⟨Z,Z,Z,Z⟩;rw[LG]at s1 a1;have p:Cs e (e.qa n) [e.kr n]:=s1.to _ Z Z Z Z Z Z Z Z Z Z
  have bo:Fu (e.qa n):=by
   have r:=fI l (now:=now) (n:=n) O K.2.1;refine⟨by rw[p.gi];exact w.u1,by rw[p.base,p.gi];exact w.bu,?_⟩;rw[p.last,p.shut,show(e.qa n).next=e.ms n from r.1];have h1:=r.2.2;unfold Cn.ms;split
   ·rename_i hh;rw[L9 hh.1];omega
   split <;> omega
  unfold Cn.sg;dsimp only;rw[L7 (by rw[show(e.qa n).pend=0 from Z];intro g;have:=g.1;omega)];have h0:(e.qa n).st≠0:=by rw[show(e.qa n).st=e.st from Z];omega
  have E:=(oN q bo t).1;obtain⟨a3,p3⟩:=gQ q t h0;have j:=p.trans E;have F:=(show Said e (e.qa n) [e.kr n]from a1).trans a3 (eZ l);have hx:=cE F.fx;refine⟨⟨by rw[j.gi,B];exact Lb _,by have h1:=j.nx;rw[fn]at h1;exact h1,by rw[j.lim,z];exact Lb _,by rw[j.last,P];exact Lb _,j.cf.trans u.cf,fun o a b d=> ?_,fun s hs=> ?_⟩,⟨fun i hi=>by rw[F.fx.bx,f3];exact hi,by rw[hx.1,I];exact Lb _,F.fx.A2.trans u.A2,p3,?_⟩,j.gi.trans B,j.lim.trans z,fun i=>by rw[F.fx.bx,f3],hx.1.trans I,?_,?_,?_,?_⟩
  ·obtain⟨s,hs,lo,g1,W,X,g4⟩:=j.GQ o O b (by rw[j.last]at d;exact d);exact⟨s,hs,lo,by rw[<-u.cf];exact g1,W,X,by rw[j.lim];exact g4⟩
  ·obtain⟨lo,g1,W,X⟩:=j.GH s hs;exact⟨lo,by rw[<-u.cf];exact g1,by rw[j.gi];exact W,X⟩
  ·rcases F.k with⟨k1,-⟩ | ⟨k1,k2,k3,k4⟩
   ·exact absurd k1 IK
   have h1:=(kw (eZ l)).1;rw[f8]at h1;exact .inr ⟨k1,k2,LE h1 (Mu k3.symm),k4⟩
  ·refine Hs.push ?_ now;exact y.fx (ic e n) Z Z
  ·rw[dL];exact .inl f2
  ·have ot:=ik (e.qa n) now;have x1:Ex True e (e.qa n) now:=.same now Z Z Z p.gi Z Z Z Z Z;have x2:=tz E ot.1 (ot.2 h0);have a6:(e.qa n).next<=((e.qa n).push now).1.next:=E.nx;have r:=(fI l (now:=now) (n:=n) O K.2.1);have a7:(e.qa n).next=e.ms n:=r.1;refine⟨u.ex.trans (x1.trans x2 (Mu p.gi.symm) (Mu E.gi.symm) p.nx) (Mu B.symm) (Mu j.gi.symm) (Mu fn.symm),fun _=>.inr ?_,fun _=>(ot.2 h0).1,fun _=>nC q t⟩;have hr:=r.2.1;rw[S,z,f6,fn]at C;rw[fn]at hr;have b6:=b5;rw[S,P,fn]at b6;show c.next+min 20 (c.last-c.next)<=((e.qa n).push now).1.next;omega
  exact(E.De.trans p.De).trans x
 rename_i f;exact jW t ⟨Lb _,Z,Lb _,Lb _,Z,fun _ h=>h,Lb _,Z,Z,.inr (.inl ⟨Z,Z,Z⟩),.of JE (.same now Z Z Z Z Z Z Z Z Z)⟩ ok so hs O Z Z Z Z Z Z
theorem A6 {c:Cn}{N:Int}(h:Hv c N)(j:ae c.st=true->1<=c.gi){now:Int}(k:aI now)(h2:2<=c.st)(l:c.pend≠2)(x:List UInt8)(n:c.last+x.length<=1073741824):Op True c (c.send now x).1 (c.send now x).2 now:=by
 have ok:=h.ok;unfold Cn.send;split
 ·exact .none h.hs l
 rename_i d
 have b:c.shut=false/\¬(c.st=5\/c.st=9):=by
  have h1:c.refusal=0:=by simpa using d
  unfold Cn.refusal at h1;rw[L7 O]at h1;split at h1
  ·rename_i g;exact⟨g.1,O⟩
  cases h1
 obtain⟨b,e⟩:=b;have o:=ok.hlen
 have f:c.last<=c.base+((c.held++x.take (c.pd x).toNat).length:Int)/\c.base+((c.held++x.take (c.pd x).toNat).length:Int)<=c.last+x.length:=by
  rw[Lc,Lg];unfold Cn.last;omega
 have m:Cn.Ok { c with held:=c.held++x.take (c.pd x).toNat }:={ ok with b1:=by show c.base+((c.held++x.take (c.pd x).toNat).length:Int)<=_;omega };refine Op.of ⟨Lb _,Z,Lb _,f.1,Z,fun _ h=>h,Lb _,Z,Z,.inr (.inl ⟨Z,Z,Z⟩),Lb _,id,fun g=>⟨g.sf,fun a=>absurd a e,?_⟩,fun _ _ _ _=>rfl,fun g=>⟨g.t0,g.bk,g.cw,g.dl⟩,fun g=>g trivial⟩ k m (fun hs=> ?_) ⟨h.ov,h.vo,h.st,h.ts⟩ (by show c.st≠0;omega) (.inl Z) Z Z (fun _=>NM) Z Z
 ·have h1:=g.ub;have h2:=ok.gi;have i:=h.nl;rw[b]at i;show min c.gi _<=c.base
  simp at i
  omega
 have so:=h.so (j hs);refine⟨so.u1,so.bu,?_⟩;have h1:=so.nl;show c.next<=c.base+((c.held++x.take (c.pd x).toNat).length:Int)+(if c.shut=true then 1 else 0);have h2:=f.1;omega
theorem yv {c:Cn}{N:Int}(h:Hv c N)(t:ae c.st=true->1<=c.gi){now:Int}(l:aI now)(h2:2<=c.st)(u:c.pend≠2):Op True c (c.close now).1 (c.close now).2 now:=by
 have ok:=h.ok;unfold Cn.close;split
 ·exact .none h.hs u
 rename_i w;have m:=ok.tr2 (fun h0=>w (.inl h0));have k:Cn.Ok { c with shut:=true }:={ ok with };have o:c.next<=c.last+1:=by have h1:=h.nl;split at h1 <;> omega
 dsimp only;rw[L7 O];have p:Pre True c { c with shut:=true } now:=⟨Lb _,Z,Lb _,Lb _,Z,fun _ h=>h,Lb _,Z,Z,.inr (.inl ⟨Z,Z,Z⟩),Lb _,fun _=>rfl,fun g=>⟨fun a=>(by cases a),g.fa,g.ub⟩,fun _ _ _ _=>rfl,fun g=>⟨g.t0,g.bk,g.cw,g.dl⟩,fun g=>g trivial⟩;split
 ·rename_i f;exact Op.of p l k (fun hs=>by have h1:ae c.st=true:=hs;rw[f]at h1;cases h1) ⟨h.ov,h.vo,h.st,h.ts⟩ (by show c.st≠0;omega) (.inl Z) Z Z (fun _=>NM) Z Z
 rename_i f;have sd:=kI { c with shut:=true } now 5;have d:=kH { c with shut:=true } now 5;have x:=ok.st
 have b:(Cn.step { c with shut:=true } now 5).st=c.st\/(c.st=3/\(Cn.step { c with shut:=true } now 5).st=4)\/(c.st=6/\(Cn.step { c with shut:=true } now 5).st=8):=by
  rw[Cn.Dd];show(match gS c.st 5 with | none=>c.st | some n=>n)=c.st\/(c.st=3/\(match gS c.st 5 with | none=>c.st | some n=>n)=4)\/(c.st=6/\(match gS c.st 5 with | none=>c.st | some n=>n)=8);have y:c.st=3\/c.st=4\/c.st=5\/c.st=6\/c.st=7\/c.st=8\/c.st=9:=O
  rcases y with e | e | e | e | e | e | e <;> rw[e] <;> simp[gS]
 have j:=cr d.fx;have q:=cE d.fx;have r:(Cn.step { c with shut:=true } now 5).gi=c.gi:=by unfold Cn.gi;rw[sd.sc]
 have s:ae (Cn.step { c with shut:=true } now 5).st=true->ae c.st=true:=fun g=>by
  rcases b with e | ⟨e,-⟩ | ⟨e,-⟩
  ·rw[<-e];exact g
  ·rw[e];rfl
  rw[e];rfl
 refine Op.of (p.trans (.same now sd d (by rcases b with e | ⟨-,e⟩ | ⟨-,e⟩;exact .inl e;exact .inr ⟨Z,O,O⟩;exact .inr ⟨Z,O,O⟩))) l (k.step l m 5) (fun hs=> ?_) ⟨fun g=> ?_,fun g=> ?_,fun g=> ?_,fun g=> ?_⟩ O O r sd.lim (fun i=>by rw[d.fx.bx]) q.1 sd.De
 ·have so:=h.so (t (s hs));refine⟨by rw[r];exact so.u1,by rw[r,sd.base];exact so.bu,?_⟩;unfold Cn.next Cn.last;rw[sd.sc,sd.held,sd.base,sd.shut];exact o
 ·exact j.trans (h.ov (d.over.symm.trans g))
 ·exact d.over.trans (h.vo (j.symm.trans g))
 ·exact d.over.trans (h.st O)
 have h1:=h.ts (d.over.symm.trans g);omega
theorem uB {c:Cn}{N:Int}(h:Hv c N)(M:ae c.st=true->1<=c.gi){now:Int}(G:aI now)(h2:2<=c.st)(P:c.pend≠2){n:Int}(h0:0<=n):Op True c (c.recv now n).1 (c.recv now n).2 now/\(c.bx.nx-c.bx.rd<=n->(c.recv now n).1.bx.rd=(c.recv now n).1.bx.nx/\(c.recv now n).1.bx.nx=c.bx.nx/\((c.bx.rd=c.bx.nx/\(c.recv now n).1=c)\/aV c.st=false\/(c.recv now n).1.most<(c.recv now n).1.ann+max 1 (min c.go (c.room/2)))):=by
 have ok:=h.ok;obtain⟨I,t2,t3,z⟩:=Bx.DG c.bx n;have w:=ok.take n;obtain⟨d,f⟩:∃d:Cn,d={ c with bx:=c.bx.take n }:=⟨_,Z⟩;have q:d.bx=c.bx.take n:=by rw[f]
 rw[<-f]at w
 have j:d.expected=c.expected/\d.reached=c.reached:=by
  rw[f];unfold Cn.expected Cn.reached;dsimp only;rw[I];exact⟨Z,Z⟩
 have r:Hs d:=⟨fun g=>by rw[j.2];exact h.ov (by rw[f]at g;exact g),fun g=>by have t:=h.vo (by rw[<-j.2];exact g);rw[f];exact t,fun g=>by have t:=h.st (by rw[f]at g;exact g);rw[f];exact t,fun g=>by have t:=h.ts (by rw[f]at g;exact g);rw[f];exact t⟩
 have p:Pre True c d now:=by
  refine⟨?_,?_,?_,?_,?_,fun i hi=>by rw[q];exact(z i).2 hi,by rw[j.1];exact Lb _,?_,?_,.inr (.inl ⟨?_,?_,j.1⟩),?_⟩ <;> rw[f] <;> first | rfl | exact Lb _ | exact .same now Z Z Z Z Z Z Z Z Z
 have S:d.st=c.st/\d.gi=c.gi/\d.limit=c.limit/\d.pend=c.pend/\d.room=c.room/\d.go=c.go/\d.ann=c.ann:=by rw[f];exact⟨Z,Z,Z,Z,Z,Z,Z⟩
 obtain⟨x,J,K,bd,T,U,cX⟩:=S
 have A:c.bx.nx-c.bx.rd<=n->d.bx.rd=d.bx.nx:=fun g=>by
  have V:=ok.bx.Cv;rw[q];unfold Bx.take;split
  ·omega
  show c.bx.rd+min n (c.bx.nx-c.bx.rd)=c.bx.nx;omega
 have m:d.bx.nx=c.bx.nx:=by rw[q];exact I
 have so:∀e:Cn,e.sc=c.sc->e.base=c.base->e.held=c.held->e.shut=c.shut->ae c.st=true->Fu e:=fun e u y W X e5=>by
  have s:=h.so (M e5);exact⟨by unfold Cn.gi;rw[u];exact s.u1,by unfold Cn.gi;rw[u,y];exact s.bu,by unfold Cn.next Cn.last;rw[u,y,W,X];exact s.nl⟩
 have hid:Op True c d [] now:=by
  refine⟨⟨p.gi,by rw[p.nx];exact Lb _,p.lim,p.last,p.cf,fun o a b=>by rw[p.nx]at b;omega,fun s hs=>(by cases hs)⟩,⟨p.has,p.exp,p.A2,by rw[bd];exact P,.inl ⟨Z,p.ann,.inl ⟨bd,by rw[f],j.1⟩⟩⟩,J,K,fun i=>by rw[q];exact z i,j.1,r,.inl x,⟨p.ex,fun _=>.inl p.nx,fun g a=> ?_,fun g=> ?_⟩,by rw[f]⟩
  ·rw[f]at a|-;exact g a
  rw[f];exact g
 have e:c.recv now n=if c.bx.ox n=[]then(d,[])else if d.C7 d.go=false\/aV d.st=false then(d,[])else d.i2.push now:=by
  rw[f];unfold Cn.recv;rw[L7 O]
 rw[e];split
 ·rename_i hz;refine⟨hid,fun g=>⟨A g,m,.inl ?_⟩⟩
  -- nothing was taken
  unfold Bx.ox at hz;have V:=ok.bx.Cv
  have B:min n (c.bx.nx-c.bx.rd)<=0:=by
   split at hz
   ·assumption
   rename_i L
   exfalso
   have:=congrArg List.length hz;rw[kT _ _ _ ok.bx.one (by have:=ok.bx.Du;omega)]at this
   simp at this
   omega
  refine⟨O,?_⟩;have e:c.bx.take n=c.bx:=by unfold Bx.take;rw[L9 B]
  rw[f,e]
 split
 ·rename_i l;refine⟨hid,fun g=>⟨A g,m,.inr ?_⟩⟩
  rcases l with l | l
  ·refine .inr ?_;unfold Cn.C7 at l;have l:=Nf l;rw[T,U]at l;show d.most<d.ann+max 1 (min c.go (c.room/2));omega
  exact .inl (by rw[<-x];exact l)
 rename_i l;have hb:=eZ w;have cF:Op True c (d.i2.push now).1 (d.i2.push now).2 now:=Op.of p.i2 G w.i2 (fun hs=>so d.i2 (by rw[f];rfl) (by rw[f];rfl) (by rw[f];rfl) (by rw[f];rfl) (by rw[<-x];exact hs)) ⟨r.ov,r.vo,r.st,r.ts⟩ (by show d.st≠0;omega) (.inl x) J K (fun i=>by show d.bx.has i↔_;rw[q];exact z i) j.1 (by rw[f];rfl);refine⟨cF,fun g=> ?_⟩;obtain⟨k,kp⟩:=gQ w.i2 G (by show d.st≠0;omega);have C:(d.i2.push now).1.bx=d.bx:=k.fx.bx;refine⟨by rw[C];exact A g,by rw[C];exact m,.inr (.inr ?_)⟩
 rcases k.k with⟨-,-,E,-⟩ | ⟨-,-,E,-⟩
 ·exact absurd E kp
 have F:d.C7 d.go=true:=by
  cases L:d.C7 d.go with
  | true=>rfl
  | false=>exact absurd (.inl L) l
 have u:(d.i2.push now).1.ann=d.most:=by
  rw[E];show d.raised d.go=_;unfold Cn.raised;rw[L9 F]
 have y:(d.i2.push now).1.most=d.most:=by unfold Cn.most;rw[C]
 rw[u,y];omega
def fV (i:Int)(g:Sg):Int:=aE g.sq i
def iF (i:Int)(g:Sg):Int:=aE g.ak i
theorem pX (i:Int){k:Int}(h0:0<=k)(h1:k<2147483648):aE (aw i k) i=k:=by unfold aE aw;omega
structure Dt (i N nx:Int)(g:Sg):Prop where
 sq:g.sq=aw i (fV i g)
 lo:1<=fV i g
 hi:fV i g+g.s.length+nv g<=nx
 n:(fV i g+g.s.length<=N+1/\(g.fin=true->fV i g+g.s.length=N+1))\/(g.s=[]/\g.fin=false)
theorem Dt.mono {i N nx a:Int}{g:Sg}(h:Dt i N nx g)(b:nx<=a):Dt i N a g:=⟨h.sq,h.lo,by have:=h.hi;omega,h.n⟩
structure DI (s r:Cn)(D0 A:List Sg)(q N:Int):Prop where
 A2:r.A2=s.cf.ki
 seg:∀g∈D0,Dt s.cf.ki N s.next g
 ack:∀g∈A,s.gi<=iF s.cf.ki g/\iF s.cf.ki g<=r.expected+1/\(r.reached=false->iF s.cf.ki g+g.win<=r.ann+1)
 Hw:A.Pairwise fun g h=>iF s.cf.ki g<=iF s.cf.ki h
 gi:s.gi<=r.expected+1
 E5:r.expected+1<=s.next
 lim:r.reached=false->s.limit<=r.ann+1
 safe:∀o,q<=o->o<s.next->o<=N->r.bx.has (o-1)\/∃g∈D0,fV s.cf.ki g<=o/\o<fV s.cf.ki g+g.s.length/\fV s.cf.ki g+g.s.length<=r.ann+1
 told:s.gi=r.expected+1\/r.pend=1\/∃g∈A,iF s.cf.ki g=r.expected+1
 Fb:r.reached=false->s.limit=r.ann+1\/∃g∈A,iF s.cf.ki g+g.win=r.ann+1
 Hx:∀o,r.bx.has o->o+1<s.next
 EP:r.ended=true->s.next=N+2
theorem DI.G3 {s r:Cn}{a A0 A:List Sg}{q N:Int}(h:DI s r a (A0++A) q N){s':Cn}{l:List Sg}(f:SV s s' l)
  (hA:(A0=[]/\s'.gi=s.gi/\s'.limit=s.limit)\/∃g,A0=[g]/\s'.gi=iF s.cf.ki g/\s'.limit=max s.limit (iF s.cf.ki g+g.win))
  (P:s'.next<=N+2)(t:s'.next<=s'.last\/s'.last=N+1)(G:∀g∈l,1<=fV s.cf.ki g/\((fV s.cf.ki g+g.s.length<=N+1/\(g.fin=true->fV s.cf.ki g+g.s.length=N+1))\/(g.s=[]/\g.fin=false)))(h0:0<=s.gi)(I:N<=99000) :
  DI s' r (a++l) A q N:=by
 have i:=f.cf;have u:=f.nx
 have j:∀g∈l,∀lo,g.sq=aw s.cf.ki lo->s'.gi<=lo->lo+g.s.length+nv g<=s'.next->fV s.cf.ki g=lo:=by
  intro g _ lo e h1 h2;have:=f.gi;have:=lm g;unfold fV;rw[e];exact pX _ O O
 have d:r.reached=false->s'.limit<=r.ann+1:=by
  intro c;have h1:=h.lim c
  rcases hA with⟨-,-,e⟩ | ⟨g,rfl,-,e⟩
  ·rw[e];exact h1
  have:=(h.ack g IK).2.2 c;rw[e];omega
 refine⟨h.A2.trans (by rw[i]),?_,?_,?_,?_,by have:=h.E5;omega,d,?_,?_,?_,fun o w=>by have:=h.Hx o w;omega,fun g=>by have:=h.EP g;omega⟩
 ·intro g b;rw[i]
  rcases LH.1 b with b | b
  ·exact(h.seg g b).mono u
  obtain⟨lo,e,h1,h2⟩:=f.GH g b;have y:=j g b lo e h1 h2;obtain⟨n,p⟩:=G g b;exact⟨by rw[y];exact e,n,by rw[y];exact h2,p⟩
 ·intro g b;rw[i];obtain⟨n,p,C⟩:=h.ack g (by simp[b]);refine⟨?_,p,C⟩
  rcases hA with⟨-,e,-⟩ | ⟨x,rfl,e,-⟩
  ·rw[e];exact n
  rw[e];exact(P2.1 h.Hw).1 g b
 ·rw[i];exact(NU.1 h.Hw).2.1
 ·rcases hA with⟨-,e,-⟩ | ⟨x,rfl,e,-⟩
  ·rw[e];exact h.gi
  rw[e];exact(h.ack x IK).2.1
 ·intro o w h1 h2;rw[i];by_cases J:o<s.next
  ·rcases h.safe o w J h2 with k | ⟨g,b,k⟩
   ·exact .inl k
   exact .inr ⟨g,by simp[b],k⟩
  obtain⟨g,b,lo,e,n,p,C⟩:=f.GQ o O h1 O;obtain⟨m,E,K,L⟩:=f.GH g b;have y:=j g b m E K L;have S:=lm g;by_cases c:r.reached=true
  ·have:=h.E5;have M:r.expected=r.bx.nx+1:=by unfold Cn.expected;rw[L9 c]
   have:=h.EP (by unfold Cn.reached at c;simp at c;exact c.1);omega
  have z:r.reached=false:=by simpa using c
  have B:lo=m:=by
   have F:=e.symm.trans E;have T:=f.gi;have U:=h.gi;have V:=h.E5;unfold aw at F;omega
  subst B;exact .inr ⟨g,by simp[b],O,O,by have:=d z;omega⟩
 ·rw[i]
  rcases h.told with k | k | ⟨g,b,k⟩
  ·rcases hA with⟨-,e,-⟩ | ⟨x,rfl,e,-⟩
   ·exact .inl (e.trans k)
   obtain⟨F,W,-⟩:=h.ack x IK;exact .inl O
  ·exact .inr (.inl k)
  rcases LH.1 b with b | b
  ·rcases hA with⟨rfl,-,-⟩ | ⟨x,rfl,e,-⟩
   ·cases b
   rw[Ly.1 b]at k;exact .inl (e.trans k)
  exact .inr (.inr ⟨g,b,k⟩)
 intro c;rw[i]
 rcases h.Fb c with k | ⟨g,b,k⟩
 ·rcases hA with⟨-,-,e⟩ | ⟨x,rfl,-,e⟩
  ·exact .inl (e.trans k)
  have:=(h.ack x IK).2.2 c;exact .inl O
 rcases LH.1 b with b | b
 ·rcases hA with⟨rfl,-,-⟩ | ⟨x,rfl,-,e⟩
  ·cases b
  rw[Ly.1 b]at k;have:=h.lim c;exact .inl O
 exact .inr ⟨g,b,k⟩
theorem DI.Iu {s r:Cn}{D0 a A:List Sg}{q N:Int}(h:DI s r (D0++a) A q N){b:Cn}{l:List Sg}{now:Int}(t:RV r b l now)
  (G:(D0=[]/\(∀i,b.bx.has i->r.bx.has i)/\(b.ended=true->r.ended=true))\/∃g,D0=[g]/\(fV s.cf.ki g-1+g.s.length<=r.ann->∀i,fV s.cf.ki g-1<=i->i<fV s.cf.ki g-1+g.s.length->b.bx.has i)/\(∀i,b.bx.has i->r.bx.has i\/(fV s.cf.ki g-1<=i/\i<fV s.cf.ki g-1+g.s.length))/\(b.ended=true->r.ended=true\/g.fin=true))
  (u:b.reached=false->r.reached=false)(z:0<b.bx.nx->b.bx.has (b.bx.nx-1))(M:b.ended=true->b.sw=N)(h0:0<=r.expected)(X:s.next<=N+2)(P:N<=99000) :
  DI s b a (A++l) q N:=by
 have cL:r.ann<=b.ann:=by
  rcases t.k with⟨-,e,-⟩ | ⟨-,-,e,-⟩
  ·omega
  exact e
 have cM:=t.exp
 have L:∀o,b.bx.has o->o+1<s.next:=by
  intro o B
  rcases G with⟨-,k,-⟩ | ⟨g,rfl,-,k,-⟩
  ·exact h.Hx o (k o B)
  rcases k o B with k | k
  ·exact h.Hx o k
  have:=(h.seg g IK).hi;have:=lm g;omega
 have be:b.ended=true->s.next=N+2:=by
  intro B
  rcases G with⟨-,-,k⟩ | ⟨g,rfl,-,-,k⟩
  ·exact h.EP (k B)
  rcases k B with k | k
  ·exact h.EP k
  have j:=h.seg g IK;have I:=j.hi
  have J:fV s.cf.ki g+g.s.length=N+1:=by
   rcases j.n with⟨-,f⟩ | ⟨-,f⟩
   ·exact f k
   rw[f]at k;cases k
  have:nv g=1:=by unfold nv;rw[L9 k]
  omega
 have S:b.expected+1<=s.next:=by
  have C:=h.E5;unfold Cn.expected;split
  ·rename_i m;unfold Cn.reached at m
   simp at m
   have:=be m.1;have:=M m.1;omega
  by_cases T:0<b.bx.nx
  ·have:=L _ (z T);omega
  omega
 have U:∀g∈l,l≠[]->iF s.cf.ki g=b.expected+1/\(b.reached=false->iF s.cf.ki g+g.win=b.ann+1):=by
  intro g d p
  rcases t.k with⟨k,-⟩ | ⟨-,-,-,k⟩
  ·exact absurd k p
  have c:=k g d
  have e:iF s.cf.ki g=b.expected+1:=by
   unfold iF;rw[c.ak];unfold Cn.number;rw[t.A2,h.A2];exact pX _ O O
  refine⟨e,fun m=> ?_⟩;rw[e,c.win];have:b.expected=b.bx.nx:=by unfold Cn.expected;rw[L7 (by rw[m];decide)]
  omega
 have w:∀g∈l,iF s.cf.ki g=b.expected+1/\(b.reached=false->iF s.cf.ki g+g.win=b.ann+1):=fun g d=>U g d (fun e=>by rw[e]at d;cases d);have hu:=h.gi;refine⟨t.A2.trans h.A2,fun g d=>h.seg g (by simp[d]),?_,?_,O,S,fun m=>by have:=h.lim (u m);omega,?_,?_,?_,L,be⟩
 ·intro g d
  rcases LH.1 d with d | d
  ·obtain⟨E,F,K⟩:=h.ack g d;exact⟨E,O,fun m=>by have:=K (u m);omega⟩
  obtain⟨E,F⟩:=w g d;exact⟨O,O,fun m=>by have:=F m;omega⟩
 ·refine NU.2 ⟨h.Hw,?_,fun x z y hy=> ?_⟩
  ·exact List.pairwise_of_forall_mem_list fun x z y hy=>by rw[(w x z).1,(w y hy).1];exact Lb _
  have:=(h.ack x z).2.1;have:=(w y hy).1;omega
 ·intro o E F K
  rcases h.safe o E F K with k | ⟨g,d,I,J,V⟩
  ·exact .inl (t.has _ k)
  rcases LH.1 d with d | d
  ·rcases G with⟨rfl,-⟩ | ⟨x,rfl,e,-⟩
   ·cases d
   rw[Ly.1 d]at I J V;exact .inl (e O _ O O)
  exact .inr ⟨g,d,I,J,O⟩
 ·by_cases p:l=[]
  ·rcases t.k with⟨-,-,⟨C,-,W⟩ | ⟨C,-⟩⟩ | ⟨k,-⟩
   ·rw[W,C,p,LP];exact h.told
   ·exact .inr (.inl C)
   exact absurd p k
  obtain⟨g,d⟩:=Nx l p;exact .inr (.inr ⟨g,by simp[d],(w g d).1⟩)
 intro m;by_cases p:l=[]
 ·rcases t.k with⟨-,e,-⟩ | ⟨k,-⟩
  ·rw[e,p,LP];exact h.Fb (u m)
  exact absurd p k
 obtain⟨g,d⟩:=Nx l p;exact .inr ⟨g,by simp[d],(w g d).2 m⟩
theorem yw (c:Cn):0<c.bx.nx->c.bx.has (c.bx.nx-1):=fun _=>.inl O
theorem pY {c:Cn}(ok:c.Ok):0<=c.expected/\c.bx.nx<=c.expected:=by
 have:=ok.bx.E1;have:=ok.bx.Cv;unfold Cn.expected;split <;> omega
theorem kJ {c d:Cn}{N:Int}(h:Hv c N)(a:Hv d N)(he:c.expected<=d.expected):d.reached=false->c.reached=false:=by
 intro b
 cases hc:c.reached with
 | false=>rfl
 | true =>
  have e:d.expected=d.bx.nx:=by unfold Cn.expected;rw[L7 (by rw[b];decide)]
  have f:c.expected=c.bx.nx+1:=by unfold Cn.expected;rw[L9 hc]
  unfold Cn.reached at hc;rw[LD,Lj]at hc;have:=h.fe hc.1;have:=a.nx;omega
def Bw (i M:Int)(l:List Sg):Prop:=∀x∈l,1<=fV i x/\((fV i x+x.s.length<=M+1/\(x.fin=true->fV i x+x.s.length=M+1))\/(x.s=[]/\x.fin=false))
theorem yx {c e:Cn}{g:Sg}{a A:List Sg}{q q' N M:Int}(hi:DI e c (g::a) A q N)(h:DI c e A (g::a) q' M)(nm:g.te=false/\g.syn=false/\g.has=true)(pt:g.fp=c.cf.tp/\g.tp=c.cf.fp)(m:1<=c.gi)(he:e.next<=N+2)(p:N<=99000) :
  Ic c g (fV e.cf.ki g-1) (iF c.cf.ki g)/\c.gi<=iF c.cf.ki g/\1<=iF c.cf.ki g/\iF c.cf.ki g<=c.next/\0<=fV e.cf.ki g-1/\fV e.cf.ki g-1<=100000/\((fV e.cf.ki g-1+g.s.length<=N/\(g.fin=true->fV e.cf.ki g-1+g.s.length=N))\/(g.s=[]/\g.fin=false)):=by
 have d:=hi.seg g IK;have i:=h.ack g IK;have d1:=d.lo;have d2:=d.n;have d3:=d.hi;have d4:=lm g;have j:=i.1;have r:=i.2.1;have t:=h.E5;have k:fV e.cf.ki g<=99002:=O
 have b:c.offset g.sq=fV e.cf.ki g-1:=by
  unfold Cn.offset;rw[hi.A2,d.sq];generalize fV e.cf.ki g=o at d1 k;unfold aE aw;omega
 refine⟨⟨nm.1,nm.2.1,nm.2.2,pt,b,Z⟩,j,O,O,O,O,?_⟩
 rcases d2 with⟨u,f2⟩ | f
 ·exact .inl ⟨O,fun l=>by have:=f2 l;omega⟩
 exact .inr f
theorem A7 {c e:Cn}{g:Sg}{a A:List Sg}{q q' N M now:Int}(hi:DI e c (g::a) A q N)(f:DI c e A (g::a) q' M)(h:Hv c N)(l:aI now)(hs:g.Ok)(nm:g.te=false/\g.syn=false/\g.has=true)(pt:g.fp=c.cf.tp/\g.tp=c.cf.fp)(n:3<=c.st)(o:1<=c.gi)(he:e.next<=N+2)(i:N<=99000)(p:M<=99000)(j:Hv (c.receive now g).1 N)(r:(c.receive now g).1.next<=(c.receive now g).1.last\/(c.receive now g).1.last=M+1)(b:(c.receive now g).1.next<=M+2)(d:Bw c.cf.ki M (c.receive now g).2) :
  (c.st=8/\c.last<iF c.cf.ki g/\(c.receive now g).1.st=0/\(c.receive now g).1.reached=true) \/
  (Rc c (c.receive now g).1 (c.receive now g).2 now g (fV e.cf.ki g-1) (iF c.cf.ki g) N/\DI e (c.receive now g).1 a (A++(c.receive now g).2) q N/\DI (c.receive now g).1 e (A++(c.receive now g).2) a q' M):=by
 obtain⟨m,s,t,u,w,x,y⟩:=yx hi f nm pt o he i
 rcases nG h l hs m n s t u w x y with k | k
 ·exact .inl k
 refine .inr ⟨k,?_,?_⟩
 ·exact DI.Iu (D0:=[g]) hi k.rv (.inr ⟨g,Z,k.has,k.Ha,k.Hb⟩) (kJ h j k.rv.exp) (yw _) j.fe (pY h.ok).1 he i
 exact DI.G3 (A0:=[g]) f k.sv (.inr ⟨g,Z,k.gi,k.lim⟩) b r d O p
theorem Op.di {K:Prop}{c d e:Cn}{a A l:List Sg}{q q' N M now:Int}(hi:DI e c a A q N)(k:DI c e A a q' M)(op:Op K c d l now)(h:Hv c N)(m:0<=c.gi)(he:e.next<=N+2)(n:N<=99000)(o:M<=99000)(j:Hv d N)(p:d.next<=d.last\/d.last=M+1)(b:d.next<=M+2)(f:d.ended=true->c.ended=true)(g:Bw c.cf.ki M l) :
  DI e d a (A++l) q N/\DI d e (A++l) a q' M :=
 ⟨DI.Iu (D0:=[]) hi op.rv (.inl ⟨Z,fun i hi=>(op.has i).1 hi,f⟩) (kJ h j op.rv.exp) (yw _) j.fe (pY h.ok).1 he n,DI.G3 (A0:=[]) k op.sv (.inl ⟨Z,op.gi,op.lim⟩) b p g m o⟩
def jY (d:Bool)(W:List Fl):List Sg:=(W.filter fun f=>f.dst==d).map (·.s)
theorem uC (d:Bool)(V W:List Fl):jY d (V++W)=jY d V++jY d W:=by unfold jY;rw[Mt,LQ]
theorem kK (f:Fl)(W:List Fl):jY f.dst (f::W)=f.s::jY f.dst W/\jY (!f.dst) (f::W)=jY (!f.dst) W:=by
 unfold jY
 constructor
 ·rw[MT IK];rfl
 rw[MU (by cases f.dst <;> simp)]
theorem BY (p:Pr)(i:Bool)(l:List Sg):jY (!i) (l.map (p.fl i))=l/\jY i (l.map (p.fl i))=[]:=by
 induction l with
 | nil=>exact⟨Z,Z⟩
 | cons s l a =>
  have e:=kK (p.fl i s) (l.map (p.fl i));have b:(p.fl i s).dst= !i:=Z;rw[b,LI]at e;rw[M9];exact⟨by rw[e.1,a.1];rfl,by rw[e.2,a.2]⟩
theorem rH (i:Bool):∀(l:List Sg) (p:Pr),p.kq.length<=p.many->(p.put i l).wire=p.wire++l.map (p.fl i)/\(p.put i l).kq.length<=(p.put i l).many:=by
 intro l
 induction l with
 | nil=>intro p h;exact⟨by show p.wire=_;simp,h⟩
 | cons s l a =>
  intro p h;have e:p.put i (s::l)=(p.z7 i s).put i l:=Z
  have b:p.Ch=0:=by
   unfold Pr.Ch;rw[List.getElem?_eq_none_iff.2 h]
  have h1:(p.z7 i s).kq.length<=(p.z7 i s).many:=Nat.le_succ_of_le h;obtain⟨c,d⟩:=a (p.z7 i s) h1;rw[e];refine⟨?_,d⟩;rw[c];show(p.wire++p.D6 (p.fl i s))++l.map (p.fl i)=_;unfold Pr.D6;rw[L9 b,M9,LO];rfl
theorem kL {p:Pr}(h:∀f∈p.wire,f.held=false/\f.due<=p.now):p.due=p.wire/\p.rest=[]:=by
 have h1:Pr.DZ p.now p.wire=[]:=by
  unfold Pr.DZ;rw[List.filter_eq_nil_iff];intro f a;obtain⟨b,c⟩:=h f a;unfold Pr.A4;rw[b,Le c]
  decide
 have h2:Pr.EI p.now p.wire=p.wire:=by
  unfold Pr.EI;rw[List.filter_eq_self];intro f a;obtain⟨b,c⟩:=h f a;unfold Pr.A4;rw[b,Le c]
  decide
 unfold Pr.due Pr.rest;rw[h1,h2];exact⟨LP _,Z⟩
def DP (p:Pr)(Q:List Fl)(q N:Bool->Int):Prop:=∀i,DI (p.sd i).c (p.sd (!i)).c (jY (!i) (Q++p.wire)) (jY i (Q++p.wire)) (q i) (N i)
theorem DP.of {p p':Pr}{a:List Fl}{q N:Bool->Int}(i:Bool){b:Cn}{l:List Sg}(d:(p'.sd i).c=b)(e:(p'.sd (!i)).c=(p.sd (!i)).c)(f:p'.wire=p.wire++l.map (p.fl i))
  (k1:DI (p.sd (!i)).c b (jY i (a++p.wire)) (jY (!i) (a++p.wire)++l) (q (!i)) (N (!i)))
  (h:DI b (p.sd (!i)).c (jY (!i) (a++p.wire)++l) (jY i (a++p.wire)) (q i) (N i)):DP p' a q N:=by
 obtain⟨k,f2⟩:=BY p i l;have g1:jY (!i) (a++p'.wire)=jY (!i) (a++p.wire)++l:=by rw[f,<-LO,uC,k]
 have g:jY i (a++p'.wire)=jY i (a++p.wire):=by rw[f,<-LO,uC,f2,LP]
 intro j;by_cases m:j=i
 ·subst m;rw[d,e,g1,g];exact h
 have:j= !i:=by cases i <;> cases j <;> simp_all
 subst this;rw[LI,d,e,g1,g];exact k1
structure Ns (c:Cn)(now N M:Int):Prop where
 hv:Hv c N
 gi:1<=c.gi
 st:3<=c.st
 nx:c.next<=M+2
 nn:N<=99000/\M<=99000
 now:aI now
def uD (c:Cn)(g:Sg):Prop:=g.Ok/\(g.te=false/\g.syn=false/\g.has=true)/\g.fp=c.cf.tp/\g.tp=c.cf.fp
theorem pZ (p:Pr)(i:Bool)(c:Cn):((p.v6 i c).sd i).c=c/\((p.v6 i c).sd (!i))=p.sd (!i)/\(p.v6 i c).wire=p.wire/\(p.v6 i c).now=p.now/\(p.v6 i c).kq=p.kq/\(p.v6 i c).many=p.many:=by cases i <;> exact⟨Z,Z,Z,Z,Z,Z⟩
theorem af (p:Pr)(i j:Bool)(l:List Sg):(p.put i l).sd j=p.sd j:=by
 cases j
 ·exact(cD i l p).1
 exact(cD i l p).2.1
theorem lq {p:Pr}(i:Bool)(c:Cn)(l:List Sg)(h:p.kq.length<=p.many):((((p.v6 i c).put i l).sd i).c=c/\((p.v6 i c).put i l).sd (!i)=p.sd (!i)/\((p.v6 i c).put i l).wire=p.wire++l.map (p.fl i))/\((p.v6 i c).put i l).now=p.now/\((p.v6 i c).put i l).kq.length<=((p.v6 i c).put i l).many:=by
 obtain⟨d,e,f,b,g,j⟩:=pZ p i c;obtain⟨k,m⟩:=rH i l (p.v6 i c) (by rw[g,j];exact h);have a:(p.v6 i c).fl i=p.fl i:=by funext s;unfold Pr.fl;rw[b]
 rw[af,af];exact⟨⟨d,e,by rw[k,f,a]⟩,(cD i l _).2.2.1.trans b,m⟩
theorem yy {p:Pr}{f:Fl}{Q:List Fl}{q N:Bool->Int}(h:DP p (f::Q) q N)(m:p.kq.length<=p.many)(n:∀i,Ns (p.sd i).c p.now (N (!i)) (N i))(b:uD (p.sd f.dst).c f.s)
  (o:Hv ((p.sd f.dst).c.receive p.now f.s).1 (N (!f.dst)))(r:((p.sd f.dst).c.receive p.now f.s).1.next<=((p.sd f.dst).c.receive p.now f.s).1.last\/((p.sd f.dst).c.receive p.now f.s).1.last=N f.dst+1)(d:((p.sd f.dst).c.receive p.now f.s).1.next<=N f.dst+2)(e:Bw (p.sd f.dst).c.cf.ki (N f.dst) ((p.sd f.dst).c.receive p.now f.s).2) :
  ((p.sd f.dst).c.st=8/\((p.kd f).sd f.dst).c.st=0/\((p.kd f).sd f.dst).c.reached=true)\/(DP (p.kd f) Q q N/\Rc (p.sd f.dst).c ((p.sd f.dst).c.receive p.now f.s).1 ((p.sd f.dst).c.receive p.now f.s).2 p.now f.s (fV (p.sd (!f.dst)).c.cf.ki f.s-1) (iF (p.sd f.dst).c.cf.ki f.s) (N (!f.dst))):=by
 have a:=n f.dst;have j:=n (!f.dst);rw[LI]at j;obtain⟨t,u⟩:=kK f (Q++p.wire);have hi:=h (!f.dst);have l:=h f.dst;rw[LI]at hi;rw[LT,t,u]at hi l;obtain⟨⟨g,w,x⟩,-,-⟩:=lq f.dst ((p.sd f.dst).c.receive p.now f.s).1 ((p.sd f.dst).c.receive p.now f.s).2 m
 rcases A7 hi l a.hv a.now b.1 b.2.1 b.2.2 a.st a.gi j.nx a.nn.1 a.nn.2 o r d e with k | ⟨y,z,A⟩
 ·exact .inl ⟨k.1,(congrArg Cn.st g).trans k.2.2.1,(congrArg Cn.reached g).trans k.2.2.2⟩
 exact .inr ⟨DP.of (p:=p) f.dst g (congrArg Sd.c w) x z A,y⟩
theorem Hv.of {P:Pr.BX}{p:Pr}{a b:Int}(pv:Pr.PV P p)(d:Pr.Fit p a b)(i:Bool)(hs:Hs (p.sd i).c){N:Int}(h1:(p.sd (!i)).closed=true->((p.sd (!i)).str.length:Int)=N)(h2:((p.sd (!i)).str.length:Int)<=N):Hv (p.sd i).c N :=
 ⟨(
  d.sd i).c,(pv.s i).1.bu,(pv.s i).1.nl,fun g=>by
  obtain⟨e,f⟩:=(pv.r i).1.en g;rw[f];exact h1 e,fun j h=>by have:=(pv.r i).1.pi.has j h;omega,hs.ov,hs.vo,hs.st,hs.ts,O⟩
structure Fv (p:Pr)(N:Bool->Int):Prop where
 cl:∀j,(p.sd j).closed=true->((p.sd j).str.length:Int)=N j
 le:∀j,((p.sd j).str.length:Int)<=N j
 sm:∀j,N j<=99000
theorem Ns.of {P:Pr.BX}{p:Pr}{a b:Int}(pv:Pr.PV P p)(d:Pr.Fit p a b){N:Bool->Int}(f:Fv p N)(i:Bool)(hs:Hs (p.sd i).c)(e:3<=(p.sd i).c.st):Ns (p.sd i).c p.now (N (!i)) (N i)/\((p.sd i).c.next<=(p.sd i).c.last\/(p.sd i).c.last=N i+1):=by
 obtain⟨k,u⟩:=pv.s i;have h1:(p.sd i).c.last=1+(p.sd i).str.length:=k.last;have h2:=k.nl;have j:=f.le i;have h:(p.sd i).c.shut=true->(p.sd i).c.last=N i+1:=fun g=>by have:=f.cl i (k.sh g);omega
 refine⟨⟨Hv.of pv d i hs (f.cl _) (f.le _),u e,e,?_,⟨f.sm _,f.sm _⟩,d.Cq⟩,?_⟩
 ·split at h2 <;> omega
 cases hq:(p.sd i).c.shut with
 | true=>exact .inr (h hq)
 | false =>
  rw[hq]at h2
  simp at h2
  exact .inl h2
theorem yz {k:Kx}{g:Sg}(h:GS k g)(b:g.te=false)(hy:g.syn=false)(l:k.S.length<=1000){M:Int}(h1:k.cl=true->(k.S.length:Int)=M)(h2:(k.S.length:Int)<=M) :
  1<=fV k.ki g/\((fV k.ki g+g.s.length<=M+1/\(g.fin=true->fV k.ki g+g.s.length=M+1))\/(g.s=[]/\g.fin=false)):=by
 obtain⟨off,c,m,-,d,e,f⟩:=h.dat b;have i:fV k.ki g=off:=by unfold fV;rw[c];exact pX _ O O
 have:=d hy;rw[i];refine⟨O,?_⟩;by_cases a:g.fin=true
 ·obtain⟨j,n⟩:=f a;have:=h1 j;exact .inl ⟨O,fun _=>by omega⟩
 by_cases hs:g.s=[]
 ·exact .inr ⟨hs,Jf⟩
 have:=(e hs).2;exact .inl ⟨O,fun g=>absurd g a⟩
def kz (f:Cf)(l:List Sg):Prop:=∀s∈l,s.fp=f.fp/\s.tp=f.tp
theorem kz.nil (f:Cf):kz f []:=fun s hs=>by cases hs
theorem kz.app {f:Cf}{l m:List Sg}(h:kz f l)(k:kz f m):kz f (l++m):=fun s hs=>(LH.1 hs).elim (h s) (k s)
theorem nH (c:Cn)(g:Sg)(off:Int):kz c.cf [c.v7 g off]:=by
 intro s hs;rw[Ly.1 hs];unfold Cn.v7;split <;> exact⟨Z,Z⟩
theorem jX (c:Cn)(n:Int):kz c.cf [c.kr n]:=nH c { dE with s:=c.data c.next (c.ms n),fin:=c.shut&&decide (c.last<c.ms n) } c.next
theorem wF {f:Cf}(n:Nat):∀(c:Cn) (l:List Sg),c.cf=f->kz f l->kz f (oi n c l).2/\(oi n c l).1.cf=f:=by
 induction n with
 | zero=>intro c l e h;exact⟨h,e⟩
 | succ n a =>
  intro c l e h;unfold oi;split
  ·cases hl:c.sc.lost c.go with
   | nil=>exact⟨h,e⟩
   | cons x t =>
    dsimp only;split
    ·exact a { c.tq with sc:=c.sc.ret (aK c.go x),tm:=c.tm.rl } (l++[c.nB x.1 (aK c.go x).2]) e (h.app (e ▸ nH c _ _))
    exact⟨h,e⟩
  exact⟨h,e⟩
theorem wG {f:Cf}(now:Int)(n:Nat):∀(c:Cn) (l:List Sg),c.cf=f->kz f l->kz f (nA now n c l).2/\(nA now n c l).1.cf=f:=by
 induction n with
 | zero=>intro c l e h;exact⟨h,e⟩
 | succ n a =>
  intro c l e h;unfold nA;split
  ·exact a (c.out now c.allowed) (l++[c.kr c.allowed]) e (h.app (e ▸ jX c _))
  exact⟨h,e⟩
theorem eR (c:Cn)(now:Int):kz c.cf (c.push now).2:=by
 unfold Cn.push;split
 ·exact .nil _
 dsimp only
 have k:kz c.cf (if ae c.st=true then c.qb now else(c,[])).2/\(if ae c.st=true then c.qb now else(c,[])).1.cf=c.cf:=by
  split
  ·unfold Cn.qb;dsimp only;obtain⟨d,e⟩:=wF (c.flight.toNat+1) c [] Z (.nil c.cf);generalize oi (c.flight.toNat+1) c []=r at d e|-;obtain⟨b,a⟩:=wG now (r.1.kc.toNat+1) r.1 r.2 e d;generalize nA now (r.1.kc.toNat+1) r.1 r.2=q at b a|-;unfold Cb;split
   ·exact⟨b.app (a ▸ jX q.1 _),a⟩
   exact⟨b,a⟩
  exact⟨.nil _,Z⟩
 generalize (if ae c.st=true then c.qb now else(c,[]))=r at k|-;unfold Cn.tt;split
 ·exact k.1.app (k.2 ▸ nH r.1 _ _)
 exact k.1
theorem rI {c:Cn}{N:Int}(h:Hv c N){now:Int}(r:aI now){s:Sg}(hs:s.Ok){off a:Int}(m:Ic c s off a)(n:3<=c.st)(ha:c.gi<=a)(h1:1<=a)(h2:a<=c.next)(h0:0<=off)(u:off<=100000)(j:(off+s.s.length<=N/\(s.fin=true->off+s.s.length=N))\/(s.s=[]/\s.fin=false)):kz c.cf (c.receive now s).2:=by
 have ok:=h.ok;have l:=ok.st
 have i:c.receive now s=if c.accepts off (aq s)=false then c.stray now s else c.process now s off:=by
  unfold Cn.receive;rw[L7 O,L7 L1,L7 O];unfold Cn.Cw;dsimp only;rw[m.off,L7 (fun g=>by rw[m.te]at g;cases g.1),L7 (fun g=>by rw[m.te]at g;cases g.1)]
  rw[show(if s.te=true\/s.syn=true then c.i2.push now else if s.has=false then(c,[])else c.process now s off)=c.process now s off from by
   rw[L7 (fun g=>by rw[m.te,m.syn]at g;rcases g with g | g <;> cases g),L7 (by rw[m.has];decide)]]
 rw[i];have f:∀e:Cn,e.cf=c.cf->kz c.cf (e.push now).2:=fun e he=>he ▸ eR e now;split
 ·have k:=ky (c:=c) now s ha O h2;unfold Cn.stray;dsimp only;rw[m.ack,show(if bf c.st=true/\s.has=true/\s.syn=false/\c.gi<=a/\a<=c.next then c.i1 now s a else c)=c.i1 now s a from L9 ⟨Le ⟨n,l.2⟩,m.has,m.syn,ha,h2⟩];generalize c.i1 now s a=d at k|-
  have w:∀b:Cn,b.cf=c.cf->kz c.cf ((if 0<aq s then b.i2 else b).push now).2:=fun b p=>by
   split
   ·exact f _ p
   exact f _ p
  refine w _ ?_;split <;> exact k.cf
 have x:∃o:Int,0<=o/\o<=100000/\o+s.s.length<=N/\(s.fin=true->o+s.s.length=N)/\((c.i1 now s a).store now s off).tl now s off=((c.i1 now s a).store now s o).tl now s o:=by
  rcases j with⟨y,z⟩ | ⟨p1,q⟩
  ·exact⟨off,h0,u,y,z,Z⟩
  refine⟨0,O,O,by rw[p1];simpa using h.n0,(fun g=>by rw[q]at g;cases g),?_⟩;unfold Cn.tl Cn.store;rw[p1,q]
  simp
 obtain⟨o,A,B,C,E,F⟩:=x;have t:=uA h r hs n ha h1 h2 A B C E
 have G:c.process now s off=(((c.i1 now s a).store now s off).tl now s off).push now:=by
  unfold Cn.process;dsimp only;rw[m.ack,L7 O,L7 O]
 rw[G,F];exact f _ t.pre.cf
theorem su (c:Cn)(now:Int)(x:List UInt8):(c.send now x).1.ended=c.ended:=by
 unfold Cn.send;split
 ·rfl
 exact(bF _ now).ended
theorem rJ (c:Cn)(now:Int)(h2:2<=c.st):(c.close now).1.ended=c.ended:=by
 unfold Cn.close;split
 ·rfl
 dsimp only;rw[L7 O];split
 ·exact(bF _ now).ended
 exact(bF _ now).ended.trans (kH { c with shut:=true } now 5).fx.ended
theorem sy (c:Cn)(now n:Int):(c.recv now n).1.ended=c.ended:=by
 unfold Cn.recv;split
 ·rfl
 dsimp only;split
 ·rfl
 split
 ·rfl
 exact(bF _ now).ended
theorem iy (c:Cn)(now:Int)(l:List Sg):(c.sg now l).1.ended=c.ended:=by
 unfold Cn.sg;dsimp only;refine((bF _ now).ended).trans ?_;split <;> rfl
theorem pb (c:Cn):c.expire.1.ended=c.ended:=by
 unfold Cn.expire;split
 ·rfl
 split <;> rfl
theorem sz (c:Cn)(now:Int):(c.tick now).1.ended=c.ended:=by
 unfold Cn.tick;split
 ·rfl
 split
 ·exact(cU c now 9 0).ended
 split
 ·dsimp only;split
  ·exact(cU _ now 9 182).ended
  split
  ·exact(iy _ now _).trans (pb _)
  unfold Cn.Cc;split <;> rfl
 exact iy c now []
theorem zA (c:Cn)(now:Int)(x:List UInt8):kz c.cf (c.send now x).2:=by
 unfold Cn.send;split
 ·exact .nil _
 exact eR _ now
theorem wH (c:Cn)(now:Int)(h2:2<=c.st):kz c.cf (c.close now).2:=by
 have e:(Cn.step { c with shut:=true } now 5).cf=c.cf:=(kI { c with shut:=true } now 5).cf;have k:kz (Cn.step { c with shut:=true } now 5).cf ((Cn.step { c with shut:=true } now 5).push now).2:=eR _ now;rw[e]at k;have a:kz c.cf (Cn.push { c with shut:=true } now).2:=eR { c with shut:=true } now;unfold Cn.close;split
 ·exact .nil _
 dsimp only;rw[L7 O];split
 ·exact a
 exact k
theorem zB (c:Cn)(now n:Int):kz c.cf (c.recv now n).2:=by
 unfold Cn.recv;split
 ·exact .nil _
 dsimp only;split
 ·exact .nil _
 split
 ·exact .nil _
 exact eR _ now
theorem lT {c:Cn}{f:Cf}(now:Int){l:List Sg}(e:c.cf=f)(h:kz f l):kz f (c.sg now l).2:=by
 unfold Cn.sg;dsimp only;refine h.app ?_;rw[<-e];split
 ·exact eR c.i2 now
 exact eR c now
theorem tA (c:Cn):kz c.cf c.expire.2/\c.expire.1.cf=c.cf:=by
 unfold Cn.expire;split
 ·exact⟨.nil _,Z⟩
 split
 ·exact⟨.nil _,Z⟩
 exact⟨jX c _,Z⟩
theorem zC (c:Cn)(now:Int)(a:3<=c.st)(b:c.st<=9):kz c.cf (c.tick now).2:=by
 unfold Cn.tick;rw[L7 O];split
 ·exact .nil _
 split
 ·dsimp only;split
  ·exact .nil _
  have an:bf c.st=true:=Le ⟨a,b⟩;rw[L9 an];obtain⟨k,e⟩:=tA { c with tries:=c.tries+1,tm:=c.tm.rl.kf,dl:=.Ck now c.tm.rl.kf.value };exact lT now e k
 exact lT now Z (.nil _)
section
open Go.RowKit Go.Shelf
structure Mn (c d:Cn):Prop where
 gi:c.gi<=d.gi
 nx:c.next<=d.next
 lim:c.limit<=d.limit
 last:c.last<=d.last
 ann:c.ann<=d.ann
 exp:c.expected<=d.expected
 De:c.largest<=d.largest
 has:∀i,c.bx.has i->d.bx.has i
 inc:40<=c.largest->d.next=c.next\/c.next+min 20 (c.last-c.next)<=d.next
 sh:c.shut=true->d.shut=true
 cf:d.cf=c.cf
theorem Mn.refl (c:Cn):Mn c c:=⟨Lb _,Lb _,Lb _,Lb _,Lb _,Lb _,Lb _,fun _ h=>h,fun _=>.inl Z,id,Z⟩
theorem Mn.trans {c d e:Cn}(h:Mn c d)(k:Mn d e):Mn c e:=by
 have h1:=h.nx;have h2:=k.nx;have f:=h.last;have j:=h.De;refine⟨LE h.gi k.gi,LE h1 h2,LE h.lim k.lim,LE f k.last,LE h.ann k.ann,LE h.exp k.exp,LE j k.De,fun i g=>k.has i (h.has i g),fun g=> ?_,fun g=>k.sh (h.sh g),k.cf.trans h.cf⟩;have a:=h.inc g;have b:=k.inc O;omega
theorem Mn.of {K:Prop}{c d:Cn}{l:List Sg}{now:Int}(a:SV c d l)(b:RV c d l now)(f:XV K c d now):Mn c d:=by
 refine⟨a.gi,a.nx,a.lim,a.last,?_,b.exp,f.ex.De,b.has,f.inc,f.ex.sh,a.cf⟩
 rcases b.k with⟨-,e,-⟩ | ⟨-,-,e,-⟩
 ·omega
 exact e
structure Sx (c:Cn)(R now:Int):Prop where
 ci:Ci c
 p2:c.pend≠2
 al:c.pend=1->c.t8.set=true/\c.t8.ticks=2/\c.t8.since<=now
 ds:0<c.flight->c.dl.set=true
 ni:NI c now
 Ie:40<=c.largest
 lR:c.largest<=R
theorem Sx.step {K:Prop}{c d:Cn}{l:List Sg}{R now:Int}(h:Sx c R now)(b:RV c d l now)(a:XV K c d now)(f:d.largest<=R):Sx d R now:=by
 refine⟨a.ex.ci h.ci,b.p2,fun g=> ?_,a.set h.ds,a.ex.ni h.ni,LE h.Ie a.ex.De,f⟩
 rcases b.k with⟨-,-,⟨i,j,-⟩ | ⟨-,-,e⟩⟩ | ⟨-,e,-⟩
 ·rw[j];exact h.al (i.symm.trans g)
 ·rw[e];exact⟨Z,Z,Lb _⟩
 omega
theorem Sx.If {c:Cn}{R now:Int}(h:Sx c R now):Sx c R (now+1) :=
 ⟨h.ci,h.p2,fun g=>by have:=h.al g;exact⟨this.1,this.2.1,O⟩,h.ds,⟨h.ni.t0,h.ni.bk,by have:=h.ni.cw;omega,fun g=>by have:=h.ni.dl g;exact⟨this.1,this.2.1,O,this.2.2.2⟩⟩,h.Ie,h.lR⟩
theorem Sx.tries {c:Cn}{R now:Int}(h:Sx c R now)(a:now<1692):c.tries<=11:=by
 have h1:=h.ni.cw;have h0:=h.ni.t0
 rcases MA c.tries 12 with g | g
 ·omega
 unfold AY at h1;rw[L7 O,L7 O,L7 O,L7 O,L7 O,L7 O]at h1;omega
theorem wI {c:Cn}(ok:c.Ok){now:Int}(n:aI now)(o:3<=c.st)(s:c.tries<=11):(c.tick now).1.st=0\/∃y:Cn,y.Ok/\y.st≠0/\(c.tick now).1=(y.push now).1/\((c.pend≠1\/c.t8.due now=true)->y.pend≠1):=by
 have f:=ok.st
 have b:∀(x:Cn) (l:List Sg),x.Ok->x.st≠0->(x.pend=0\/(x.pend=c.pend/\x.t8=c.t8))->∃y:Cn,y.Ok/\y.st≠0/\(x.sg now l).1=(y.push now).1/\((c.pend≠1\/c.t8.due now=true)->y.pend≠1):=fun x l i h0 d=>by
  unfold Cn.sg;dsimp only;split
  ·exact⟨x.i2,i.i2,h0,Z,fun _=>by show(2:Int)≠1;decide⟩
  rename_i g;refine⟨x,i,h0,Z,fun q e=> ?_⟩
  rcases d with d | ⟨d,p⟩
  ·omega
  rcases q with q | q
  ·exact q (d ▸ e)
  exact g ⟨e,by rw[p];exact q⟩
 unfold Cn.tick;rw[L7 O];split
 ·exact .inl (dA c now _ (.inr Z))
 refine .inr ?_;split
 ·dsimp only;rw[L7 O];have an:bf c.st=true:=Le ⟨o,f.2⟩;rw[L9 an];have h:Cn.Ok { c with tries:=c.tries+1,tm:=c.tm.rl.kf,dl:=.Ck now c.tm.rl.kf.value }:=ok.back n (O:¬12<c.tries+1);have a:=h.expire;generalize he:({ c with tries:=c.tries+1,tm:=c.tm.rl.kf,dl:=.Ck now c.tm.rl.kf.value }:Cn)=e at h a;have j:e.st=c.st/\e.pend=c.pend/\e.t8=c.t8:=by rw[<-he];exact⟨Z,Z,Z⟩
  obtain⟨j,k,m⟩:=j;unfold Cn.expire at a|-;split
  ·rename_i g;rw[L9 g]at a;exact b { e with cg:=e.cg.timeout e.flight,sc:=e.sc.timeout,mark:=e.next } _ a (by show e.st≠0;omega) (.inr ⟨k,m⟩)
  rename_i g;rw[L7 g]at a;split
  ·exact b e _ h O (.inr ⟨k,m⟩)
  rename_i r;rw[L7 r]at a;exact b (e.qa (max 1 (min (min e.go (e.limit-e.next)) e.kc))) _ a (by show e.st≠0;omega) (.inl Z)
 exact b c _ ok O (.inr ⟨Z,Z⟩)
theorem wJ {y:Cn}(ok:y.Ok){now:Int}(a:aI now)(h0:y.st≠0)(b:y.pend≠1):(y.push now).1.pend≠1:=by
 obtain⟨k,-⟩:=gQ ok a h0
 rcases k.k with⟨-,-,e,-⟩ | ⟨-,e,-⟩
 ·rw[e];exact b
 omega
theorem pc {s:Sc}(ok:s.Ok){m:Int}(g:1<=m)(h:s.gi<s.next):s.timeout.lost m=[(s.gi,s.next)]/\s.timeout.pipe m=0:=by
 have i:=ok.u0;have e:=ok.n40;have a:iK s.gi []=[]:=Z;have b:one s.gi s.next=[(s.gi,s.next)]:=by unfold one;rw[L9 h]
 have f:cW [] (s.gi,s.next)=true:=by unfold cW aj;simp[aJ];omega
 have c:s.timeout.gaps=[(s.gi,s.next)]:=by
  show bs [] (s.gi,s.next)=_;unfold bs;rw[L9 f];exact b
 have d:s.timeout.og m (s.gi,s.next)=(s.gi,s.next):=by
  unfold Sc.og;show(if aD (iK s.gi [])/3<m/\(iK s.gi []).length<3 then(s.gi,max s.gi (min s.next s.next))else(s.gi,s.next))=_;rw[a,L9 ⟨by show(0:Int)/3<m;omega,D⟩]
  congr 1
  omega
 constructor
 ·unfold Sc.lost;rw[L7 O,c,M9,d,Ms,show bC [(s.gi,s.next)]=[(s.gi,s.next)]from by simp[bC,h]];show bO s.next s.gi []++[]=_;rw[LP];exact b
 unfold Sc.pipe;rw[L7 O,c];show 0+io s.timeout m [(s.gi,s.next)]=0;unfold io;rw[d];show 0+(s.next-s.gi-(s.next-s.gi)+0)=0;omega
theorem wK (n:Nat):∀(c:Cn) (l:List Sg),∀x∈l,x∈(oi n c l).2:=by
 induction n with
 | zero=>intro c l x h;exact h
 | succ n a =>
  intro c l x h;unfold oi;split
  ·split
   ·exact h
   split
   ·exact a _ _ x (LR _ h)
   exact h
  exact h
theorem wL (now:Int)(n:Nat):∀(c:Cn) (l:List Sg),∀x∈l,x∈(nA now n c l).2:=by
 induction n with
 | zero=>intro c l x h;exact h
 | succ n a =>
  intro c l x h;unfold nA;split
  ·exact a _ _ x (LR _ h)
  exact h
theorem tB {c:Cn}(ok:c.Ok){now:Int}(hs:ae c.st=true){x:Sp}{t:List Sp}(d:c.sc.lost c.go=x::t)(e:c.sc.pipe c.go<c.cg.win):c.nB x.1 (aK c.go x).2∈(c.push now).2:=by
 have h0:c.st≠0:=Kp
 have k:c.nB x.1 (aK c.go x).2∈(oi (c.flight.toNat+1) c []).2:=by
  rw[jS ok e d];exact wK _ _ _ _ IK
 unfold Cn.push;rw[L7 h0];dsimp only;rw[L9 hs];unfold Cn.tt Cn.qb;dsimp only;have f:=wL now ((oi (c.flight.toNat+1) c []).1.kc.toNat+1) (oi (c.flight.toNat+1) c []).1 _ _ k
 have g:∀a:Cn×List Sg,c.nB x.1 (aK c.go x).2∈a.2->c.nB x.1 (aK c.go x).2∈(Cb now a.1 a.2).2:=fun a h=>by
  unfold Cb;split
  ·exact LR _ h
  exact h
 have b:=g (nA now ((oi (c.flight.toNat+1) c []).1.kc.toNat+1) (oi (c.flight.toNat+1) c []).1 (oi (c.flight.toNat+1) c []).2) f;split
 ·exact LR _ b
 exact b
theorem tF {c:Cn}(ok:c.Ok){now:Int}(u:aI now)(hs:ae c.st=true)(I:c.tries<=11)(w:c.dl.due now=true)(x:0<c.flight):∃d:Cn,d.data=c.data/\d.shut=c.shut/\d.last=c.last/\d.cf=c.cf/\d.nB c.gi (min c.next (c.gi+c.go))∈(c.tick now).2:=by
 have y:=ok.st;have a:=hs;unfold ae at a;rw[Lj]at a;have z:c.gi<c.next:=by have h1:c.flight=c.next-c.gi:=Z;omega
 have J:=ok.go;unfold Cn.tick;rw[L7 O,L7 O,L9 w];dsimp only;rw[L7 O,L9 (show bf c.st=true from Le O)];have j:Cn.Ok { c with tries:=c.tries+1,tm:=c.tm.rl.kf,dl:=.Ck now c.tm.rl.kf.value }:=ok.back u (O:¬12<c.tries+1);obtain⟨e,he⟩:∃e:Cn,e={ c with tries:=c.tries+1,tm:=c.tm.rl.kf,dl:=.Ck now c.tm.rl.kf.value }:=⟨_,Z⟩;rw[<-he]at j|-;have f:e.flight=c.flight/\e.sc=c.sc/\e.go=c.go/\e.st=c.st/\e.held=c.held/\e.base=c.base/\e.shut=c.shut/\e.cf=c.cf:=by rw[he];exact⟨Z,Z,Z,Z,Z,Z,Z,Z⟩
 obtain⟨A,l,f2,f3,n,o,f6,p⟩:=f;have b:=j.expire;unfold Cn.expire at b|-;rw[L9 (by rw[A];exact x)]at b|-;unfold Cn.sg;dsimp only at b|-;rw[LG]
 have g:∀d:Cn,d.Ok->d.sc=c.sc.timeout->d.go=c.go->d.st=c.st->d.held=c.held->d.base=c.base->d.shut=c.shut->d.cf=c.cf->∃h:Cn,h.data=c.data/\h.shut=c.shut/\h.last=c.last/\h.cf=c.cf/\h.nB c.gi (min c.next (c.gi+c.go))∈(Cn.push d now).2:=fun d q r i B s t C E=>by
  obtain⟨F,G⟩:=pc ok.sc (m:=c.go) O z;have hw:=q.cg.2.2.1;have k:=tB q (now:=now) (by rw[B];exact hs) (by rw[r,i];exact F) (by rw[r,i,G];omega);refine⟨d,by unfold Cn.data;rw[s,t],C,by unfold Cn.last;rw[s,t],E,?_⟩;rw[i]at k;exact k
 split
 ·exact g _ b.i2 (congrArg Sc.timeout l) f2 f3 n o f6 p
 exact g _ b (congrArg Sc.timeout l) f2 f3 n o f6 p
def En (c d:Cn):Prop:=(c.ended=true->d.ended=true)/\c.bx.nx<=d.bx.nx
theorem En.fx {c d:Cn}(f:Fx c d):En c d:=⟨fun g=>f.ended.trans g,by rw[f.bx];exact Lb _⟩
theorem En.trans {c d e:Cn}(h:En c d)(k:En d e):En c e:=⟨fun g=>k.1 (h.1 g),LE h.2 k.2⟩
theorem zD {c:Cn}(ok:c.bx.Ok)(now:Int)(s:Sg){off:Int}(a:off<=1099511627776):En c (c.store now s off):=by
 have k:c.bx.nx<=(c.Ca off s.s).nx:=by
  unfold Cn.Ca;split
  ·exact Lb _
  exact(Bx.DQ ok _ O O).2.2.2.1
 unfold Cn.store;split
 ·exact .fx (.refl c)
 split
 ·split
  ·unfold Cn.xa;split <;> exact⟨id,k⟩
  exact⟨id,k⟩
 exact⟨id,Lb _⟩
theorem A8 (c:Cn)(now:Int)(s:Sg)(off:Int):En c (c.tl now s off):=by
 unfold Cn.tl;dsimp only
 have a:∀d:Cn,En c d->En c (if d.reached=true/\d.over=false then({ d with over:=true }.step now 6).i2 else d):=fun d h=>by
  split
  ·exact h.trans (En.trans (d:={ d with over:=true }) ⟨id,Lb _⟩ ((En.fx (cJ _ now 6)).trans ⟨id,Lb _⟩))
  exact h
 refine a _ ?_;split
 ·exact⟨fun _=>rfl,Lb _⟩
 exact .fx (.refl c)
theorem tG {c:Cn}(ok:c.Ok)(now:Int)(s:Sg):En c (c.receive now s).1:=by
 have b:∀d:Cn,En c d->En c (d.push now).1:=fun d h=>h.trans (.fx (bF d now));have f:c.offset s.sq<=1099511627776:=by unfold Cn.offset aE;omega
 unfold Cn.receive;split
 ·exact .fx (.refl c)
 split
 ·exact .fx (.refl c)
 split
 ·unfold Cn.Ct;split
  ·split <;> exact .fx (.refl c)
  split
  ·exact .fx (cU c now 8 184)
  split
  ·exact .fx (.refl c)
  dsimp only;have k:En c { c.meet s with tries:=0 }:=⟨id,Lb _⟩;split
  ·exact k.trans ((En.fx (cJ _ now 2)).trans (.fx (pJ _)))
  refine b _ (k.trans (En.trans (d:={ ({ c.meet s with tries:=0 }:Cn)with sc:=(c.meet s).sc.i1 1 [],tm:=(c.meet s).tm.i1 now 1 }) ⟨id,Lb _⟩ ((En.fx (cJ _ now 3)).trans ⟨id,Lb _⟩)))
 unfold Cn.Cw;dsimp only;split
 ·exact .fx (cU c now 8 181)
 split
 ·exact .fx (.refl c)
 split
 ·unfold Cn.stray;dsimp only
  have k:∀a:Cn,En c a->En c ((if 0<aq s then(if a.st=9/\s.fin=true then { a with per:=.Ck now 60 }else a).i2 else(if a.st=9/\s.fin=true then { a with per:=.Ck now 60 }else a)).push now).1:=fun a h=>by
   refine b _ ?_;have h2:En c (if a.st=9/\s.fin=true then { a with per:=.Ck now 60 }else a):=by split <;> exact h
   split <;> exact h2
  refine k _ ?_;split
  ·exact .fx (eP c now s _)
  exact .fx (.refl c)
 split
 ·exact b c.i2 ⟨id,Lb _⟩
 split
 ·exact .fx (.refl c)
 unfold Cn.process;dsimp only
 have k:∀a:Cn,Fx c a->En c (((a.store now s (c.offset s.sq)).tl now s (c.offset s.sq)).push now).1:=fun a h=>by
  refine b _ (((En.fx h).trans (zD ?_ now s f)).trans (A8 _ now s _));rw[h.bx];exact ok.bx
 split
 ·split
  ·exact .fx (.refl c)
  have e:=cJ c now 4;split
  ·exact k _ ((e.trans (cJ _ now 5)).trans (eP _ now s _))
  exact k _ (e.trans (eP _ now s _))
 split
 ·exact b c.i2 ⟨id,Lb _⟩
 exact k _ (eP c now s _)
theorem RB.reached {S:List UInt8}{cl:Bool}{c d:Cn}{got a:List UInt8}(h:RB S cl c got)(f:RB S cl d a)(e:En c d)(b:c.reached=true):d.reached=true:=by
 unfold Cn.reached at b|-;rw[LD,Lj]at b|-;have h1:=e.1 b.1;refine⟨h1,?_⟩;have h2:=(h.en b.1).2;have g:=(f.en h1).2;have i:=f.pi.nx;have j:=e.2;omega
end
structure Cl (P:Pr.BX)(p:Pr)(Q:List Fl)(q N:Bool->Int)(a b:Int):Prop where
 pv:Pr.PV P p
 ft:Pr.Fit p a b
 dp:DP p Q q N
 f2:Fv p N
 calm:p.kq.length<=p.many
 st:∀i,3<=(p.sd i).c.st
 hs:∀i,Hs (p.sd i).c
 pl:∀f∈Q++p.wire,uD (p.sd f.dst).c f.s
 prt:∀i,(p.sd i).c.cf.fp=(p.sd (!i)).c.cf.tp
 qg:∀f∈Q,GS (Pr.kx P p (!f.dst)) f.s/\iM (Pr.kx P p f.dst) f.s
theorem Cl.ns {P:Pr.BX}{p:Pr}{Q:List Fl}{q N:Bool->Int}{a b:Int}(h:Cl P p Q q N a b)(i:Bool):Ns (p.sd i).c p.now (N (!i)) (N i)/\((p.sd i).c.next<=(p.sd i).c.last\/(p.sd i).c.last=N i+1):=Ns.of h.pv h.ft h.f2 i (h.hs i) (h.st i)
theorem lr (p:Pr)(f:Fl):((p.kd f).sd f.dst).c=((p.sd f.dst).c.receive p.now f.s).1/\(p.kd f).sd (!f.dst)=p.sd (!f.dst):=by
 obtain⟨a,b,-⟩:=pZ p f.dst ((p.sd f.dst).c.receive p.now f.s).1;unfold Pr.kd;rw[af,af];exact⟨a,b⟩
theorem kM (p:Pr)(i:Bool):((p.kp i).sd i).c=((p.sd i).c.tick p.now).1/\(p.kp i).sd (!i)=p.sd (!i):=by
 obtain⟨a,b,-⟩:=pZ p i ((p.sd i).c.tick p.now).1;unfold Pr.kp;rw[af,af];exact⟨a,b⟩
theorem rK {i j:Bool}:j=i\/j= !i:=by cases i <;> cases j <;> simp
structure Ek (P:Pr.BX)(N:Bool->Int)(p:Pr):Prop where
 pv:Pr.PV P p
 ft:∃a b,Pr.Fit p a b
 cl:∀i,(p.sd i).closed=true->((p.sd i).str.length:Int)=N i
 re:∀i,(p.sd i).c.reached=true
theorem Ek.kd {P:Pr.BX}{N:Bool->Int}{p:Pr}(h:Ek P N p)(n:P.Ok){f:Fl}(k:f.s.Ok)(g:GS (Pr.kx P p (!f.dst)) f.s/\iM (Pr.kx P p f.dst) f.s):Ek P N (p.kd f):=by
 obtain⟨a,b,e⟩:=h.ft;have d:=Pr.PV.kd h.pv e n k Z Z Z g.1 (Gw.refl _) g.2;obtain⟨l,o⟩:=lr p f;refine⟨d,⟨_,_,Pr.D5 e k⟩,fun i=>(by rw[(Pr.A1 p f i).1,(Pr.A1 p f i).2];exact h.cl i),fun i=> ?_⟩
 rcases rK (i:=f.dst) (j:=i)with rfl | rfl
 ·have m:=(d.r f.dst).1;rw[(Pr.A1 p f _).1,(Pr.A1 p f _).2,l]at m;rw[l];exact RB.reached (h.pv.r f.dst).1 m (tG (e.sd _).c _ _) (h.re _)
 rw[o];exact h.re _
theorem Ek.fold {P:Pr.BX}{N:Bool->Int}(b:P.Ok):∀(Q:List Fl) {p:Pr},Ek P N p->(∀f∈Q,f.s.Ok/\GS (Pr.kx P p (!f.dst)) f.s/\iM (Pr.kx P p f.dst) f.s)->Ek P N (Q.foldl Pr.kd p):=by
 intro Q
 induction Q with
 | nil=>intro p h _;exact h
 | cons f Q c =>
  intro p h a;obtain⟨d,e,g⟩:=a f IK;refine c (h.kd b d ⟨e,g⟩) fun x i=> ?_;obtain⟨j,k,l⟩:=a x (by simp[i]);exact⟨j,k.gw (Pr.Dg p f _),l.gw (Pr.Dg p f _)⟩
theorem kN (p:Pr)(i j:Bool):((p.kp i).sd j).str=(p.sd j).str/\((p.kp i).sd j).closed=(p.sd j).closed:=by
 unfold Pr.kp;rw[af]
 cases i <;> cases j <;> exact⟨Z,Z⟩
theorem Ek.kp {P:Pr.BX}{N:Bool->Int}{p:Pr}(h:Ek P N p)(i:Bool):Ek P N (p.kp i):=by
 obtain⟨a,b,c⟩:=h.ft;obtain⟨d,e⟩:=kM p i;refine⟨Pr.PV.kp h.pv c i,⟨_,_,Pr.C8 c i⟩,fun j=>(by rw[(kN p i j).1,(kN p i j).2];exact h.cl j),fun j=> ?_⟩
 rcases rK (i:=i) (j:=j)with rfl | rfl
 ·rw[d,cr (tg _ _).1];exact h.re _
 rw[e];exact h.re _
theorem Hv.rch {c:Cn}{N:Int}(h:Hv c N)(a:N<c.expected):c.reached=true:=by
 have h1:=h.nx;unfold Cn.expected at a;split at a
 ·assumption
 omega
theorem Cl.kd {P:Pr.BX}{p:Pr}{f:Fl}{Q:List Fl}{q N:Bool->Int}{a b:Int}(h:Cl P p (f::Q) q N a b)(hP:P.Ok) :
  Ek P N (p.kd f)\/(Cl P (p.kd f) Q q N (a+1) (b+1)/\Rc (p.sd f.dst).c ((p.kd f).sd f.dst).c ((p.sd f.dst).c.receive p.now f.s).2 p.now f.s (fV (p.sd (!f.dst)).c.cf.ki f.s-1) (iF (p.sd f.dst).c.cf.ki f.s) (N (!f.dst))/\(p.kd f).sd (!f.dst)=p.sd (!f.dst)/\(p.kd f).wire=p.wire++((p.sd f.dst).c.receive p.now f.s).2.map (p.fl f.dst)/\(p.kd f).now=p.now):=by
 obtain⟨l,nl⟩:=h.ns f.dst;obtain⟨A,-⟩:=h.ns (!f.dst);rw[LI]at A;have t:=h.pl f IK;have I:=h.qg f IK;have e:=Pr.PV.kd h.pv h.ft hP t.1 Z Z Z I.1 (Gw.refl _) I.2;have y:=Pr.D5 h.ft t.1;obtain⟨⟨J,B,K⟩,k4,k5⟩:=lq f.dst ((p.sd f.dst).c.receive p.now f.s).1 ((p.sd f.dst).c.receive p.now f.s).2 h.calm;obtain⟨t1,t2⟩:=kK f (Q++p.wire);have hi:=h.dp (!f.dst);have C:=h.dp f.dst;rw[LI]at hi;rw[LT,t1,t2]at hi C;obtain⟨m,L,M,S,T,U,V⟩:=yx hi C t.2.1 t.2.2 l.gi A.nx l.nn.1;have ac:=rI l.hv l.now t.1 m l.st L M S T U V
 rcases nG l.hv l.now t.1 m l.st L M S T U V with k | k
 ·have d:=(C.ack f.s IK).2.1;have a0:=k.2.1
  exact .inl ⟨e,⟨_,_,y⟩,fun i=>(by rw[(Pr.A1 p f i).1,(Pr.A1 p f i).2];exact h.f2.cl i),fun i=>by
   rcases rK (i:=f.dst) (j:=i)with rfl | rfl
   ·exact(congrArg Cn.reached J).trans k.2.2.2
   exact(congrArg (fun s:Sd=>s.c.reached) B).trans (A.hv.rch O)⟩
 have u:((p.kd f).sd f.dst).c=((p.sd f.dst).c.receive p.now f.s).1:=J;have W:(p.kd f).sd (!f.dst)=p.sd (!f.dst):=B;have X:(p.kd f).wire=p.wire++((p.sd f.dst).c.receive p.now f.s).2.map (p.fl f.dst):=K
 have n:∀i,Hs ((p.kd f).sd i).c/\3<=((p.kd f).sd i).c.st:=fun i=>by
  rcases(show i=f.dst\/i= !f.dst by cases i <;> cases f.dst <;> simp)with rfl | rfl
  ·rw[u];exact⟨k.hs,by have:=k.st;have:=l.st;omega⟩
  rw[W];exact⟨h.hs _,h.st _⟩
 have o:Fv (p.kd f) N:=⟨fun j=>by rw[(Pr.A1 p f j).1,(Pr.A1 p f j).2];exact h.f2.cl j,fun j=>by rw[(Pr.A1 p f j).1];exact h.f2.le j,h.f2.sm⟩;obtain⟨E,l3⟩:=Ns.of e y o f.dst (n f.dst).1 (n f.dst).2;rw[u]at E l3
 have F:∀x∈((p.sd f.dst).c.receive p.now f.s).2,x.has=true/\x.syn=false/\x.te=false:=fun x d=>by
  rcases k.rv.k with⟨z,-⟩ | ⟨-,-,-,z⟩
  ·rw[z]at d;cases d
  exact⟨(z x d).has,(z x d).syn,(z x d).te⟩
 have bI:∀x∈((p.sd f.dst).c.receive p.now f.s).2,GS (Pr.kx P (p.kd f) f.dst) x/\x.Ok:=fun x d=>by
  have hm:p.fl f.dst x∈(p.kd f).wire:=by rw[X];exact Mq _ (Mg.2 ⟨x,d,Z⟩)
  have h1:=(e.w _ hm).1;rw[show(!(p.fl f.dst x).dst)=f.dst from LI _]at h1;exact⟨h1,y.wire _ hm⟩
 have own:Bw (p.sd f.dst).c.cf.ki (N f.dst) ((p.sd f.dst).c.receive p.now f.s).2:=fun x d=>by
  have g:=yz (bI x d).1 (F x d).2.2 (F x d).2.1 (e.s f.dst).1.sm (o.cl _) (o.le _);have ei:(p.sd f.dst).c.cf.ki=(Pr.kx P (p.kd f) f.dst).ki:=(h.pv.s f.dst).1.ki;rw[ei];exact g
 rcases yy h.dp h.calm (fun i=>(h.ns i).1) t E.hv l3 E.nx own with z | ⟨z,-⟩
 ·have h1:=k.st;have h2:=l.st;have h3:=z.2.1;rw[u]at h3;omega
 have G:∀i,((p.kd f).sd i).c.cf=(p.sd i).c.cf:=fun i=>by
  rcases(show i=f.dst\/i= !f.dst by cases i <;> cases f.dst <;> simp)with rfl | rfl
  ·rw[u];exact k.sv.cf
  rw[W]
 refine .inr ⟨⟨e,y,z,o,k5,fun i=>(n i).2,fun i=>(n i).1,?_,fun i=>by rw[G,G];exact h.prt i,fun g r=> ?_⟩,by rw[u];exact k,B,K,k4⟩
 ·intro g r;unfold uD;rw[G];rw[X,<-LO]at r
  rcases LH.1 r with r | r
  ·exact h.pl g (by simpa using .inr (by simpa using r))
  obtain⟨x,d,rfl⟩:=Mg.1 r;obtain⟨c1,c2,c3⟩:=F x d;obtain⟨p1,p2⟩:=ac x d;have q1:=h.prt f.dst;have q2:=h.prt (!f.dst);rw[LI]at q2;exact⟨(bI x d).2,⟨c3,c2,c1⟩,p1.trans q1,p2.trans q2.symm⟩
 obtain⟨g1,g2⟩:=h.qg g (by simp[r]);exact⟨g1.gw (Pr.Dg p f _),g2.gw (Pr.Dg p f _)⟩
theorem Cl.fold {P:Pr.BX}(d:P.Ok){q N:Bool->Int}(F:Pr->List Fl->Prop)
  (step:∀(p:Pr) (f:Fl) (Q:List Fl) (a b:Int),Cl P p (f::Q) q N a b->F p (f::Q)->Cl P (p.kd f) Q q N (a+1) (b+1)->Rc (p.sd f.dst).c ((p.kd f).sd f.dst).c ((p.sd f.dst).c.receive p.now f.s).2 p.now f.s (fV (p.sd (!f.dst)).c.cf.ki f.s-1) (iF (p.sd f.dst).c.cf.ki f.s) (N (!f.dst))->(p.kd f).sd (!f.dst)=p.sd (!f.dst)->(p.kd f).wire=p.wire++((p.sd f.dst).c.receive p.now f.s).2.map (p.fl f.dst)->(p.kd f).now=p.now->F (p.kd f) Q) :
  ∀(Q:List Fl) {p:Pr} {a b:Int},Cl P p Q q N a b->F p Q->Ek P N (Q.foldl Pr.kd p)\/(Cl P (Q.foldl Pr.kd p) [] q N (a+Q.length) (b+Q.length)/\F (Q.foldl Pr.kd p) []):=by
 intro Q
 induction Q with
 | nil=>intro p a b h g;exact .inr ⟨IY,g⟩
 | cons f Q i =>
  intro p a b h g
  rcases h.kd d with k | ⟨k,j,l,m,n⟩
  ·refine .inl (k.fold d Q fun x e=> ?_);obtain⟨o,r⟩:=h.qg x (by simp[e]);exact⟨(h.pl x (by simp[e])).1,o.gw (Pr.Dg p f _),r.gw (Pr.Dg p f _)⟩
  rcases i k (step p f Q a b h g k j l m n)with z | z
  ·exact .inl z
  refine .inr ?_;rw[LC,show a+((Q.length+1:Nat):Int)=a+1+Q.length by omega,show b+((Q.length+1:Nat):Int)=b+1+Q.length by omega];exact z
theorem Cl.off {P:Pr.BX}{q N:Bool->Int}{p:Pr}{a b:Int}(h:Cl P p [] q N a b)(d:Pr.Fit { p with wire:=[] } a b):Cl P { p with wire:=[] } p.wire q N a b:=by
 refine⟨⟨h.pv.s,h.pv.r,fun f c=>(by cases c),h.pv.g⟩,d,fun i=> ?_,⟨h.f2.cl,h.f2.le,h.f2.sm⟩,h.calm,h.st,h.hs,fun f c=> ?_,h.prt,fun f c=>h.pv.w f c⟩
 ·have k:=h.dp i;rw[LG]at k;show DI _ _ (jY (!i) (p.wire++[])) (jY i (p.wire++[])) _ _;rw[LP];exact k
 refine h.pl f ?_;rw[LG]
 simpa using c
theorem Cl.op {K:Prop}{P:Pr.BX}{p p':Pr}{q N:Bool->Int}{a b G b':Int}(h:Cl P p [] q N a b)(i:Bool){d:Cn}{l:List Sg}(op:Op K (p.sd i).c d l p.now)(r:(p'.sd i).c=d)(u:p'.sd (!i)=p.sd (!i))(y:p'.wire=p.wire++l.map (p.fl i))(S:p'.kq.length<=p'.many)
  (f:Pr.PV P p')(A:Pr.Fit p' G b')(m:Fv p' N)(B:d.ended=true->(p.sd i).c.ended=true)(T:kz (p.sd i).c.cf l)(U:3<=d.st):Cl P p' [] q N G b':=by
 obtain⟨t,-⟩:=h.ns i;obtain⟨I,-⟩:=h.ns (!i);rw[LI]at I;have hi:=h.dp (!i);have V:=h.dp i;rw[LI]at hi
 have n:∀j,Hs (p'.sd j).c/\3<=(p'.sd j).c.st:=fun j=>by
  rcases(show j=i\/j= !i by cases i <;> cases j <;> simp)with rfl | rfl
  ·rw[r];exact⟨op.hs,U⟩
  rw[u];exact⟨h.hs _,h.st _⟩
 obtain⟨C,J⟩:=Ns.of f A m i (n i).1 (n i).2;rw[r]at C J
 have E:∀x∈l,x.has=true/\x.syn=false/\x.te=false:=fun x e=>by
  rcases op.rv.k with⟨z,-⟩ | ⟨-,-,-,z⟩
  ·rw[z]at e;cases e
  exact⟨(z x e).has,(z x e).syn,(z x e).te⟩
 have bI:∀x∈l,GS (Pr.kx P p' i) x/\x.Ok:=fun x e=>by
  have L:p.fl i x∈p'.wire:=by rw[y];exact Mq _ (Mg.2 ⟨x,e,Z⟩)
  have h1:=(f.w _ L).1;rw[show(!(p.fl i x).dst)=i from LI _]at h1;exact⟨h1,A.wire _ L⟩
 have own:Bw (p.sd i).c.cf.ki (N i) l:=fun x e=>by
  have g:=yz (bI x e).1 (E x e).2.2 (E x e).2.1 (f.s i).1.sm (m.cl _) (m.le _);have W:(p.sd i).c.cf.ki=(Pr.kx P p' i).ki:=(h.pv.s i).1.ki;rw[W];exact g
 obtain⟨X,ba⟩:=Op.di hi V op t.hv (by have:=t.gi;omega) I.nx t.nn.1 t.nn.2 C.hv J C.nx B own
 have F:∀j,(p'.sd j).c.cf=(p.sd j).c.cf:=fun j=>by
  rcases(show j=i\/j= !i by cases i <;> cases j <;> simp)with rfl | rfl
  ·rw[r];exact op.sv.cf
  rw[u]
 refine⟨f,A,DP.of (p:=p) i r (congrArg Sd.c u) y X ba,m,S,fun j=>(n j).2,fun j=>(n j).1,fun g o=> ?_,fun j=>by rw[F,F];exact h.prt j,fun g o=>by cases o⟩;unfold uD;rw[F];rw[y,<-LO]at o
 rcases LH.1 o with o | o
 ·exact h.pl g o
 obtain⟨x,e,rfl⟩:=Mg.1 o;obtain⟨c1,c2,c3⟩:=E x e;obtain⟨p1,p2⟩:=T x e;have q1:=h.prt i;have M:=h.prt (!i);rw[LI]at M;exact⟨(bI x e).2,⟨c3,c2,c1⟩,p1.trans q1,p2.trans M.symm⟩
theorem Cl.kp {P:Pr.BX}{p:Pr}{q N:Bool->Int}{a b:Int}(h:Cl P p [] q N a b)(i:Bool)(o:(p.sd i).c.tries<=11)(hz:(p.sd i).c.flight<=0->0<(p.sd i).c.kc->(p.sd i).c.next+20<=(p.sd i).c.limit) :
  ((p.sd i).c.st=9/\((p.kp i).sd i).c.reached=true)\/(Cl P (p.kp i) [] q N (a+1003) (b+1003)/\Op ((p.sd i).c.dl.due p.now=false) (p.sd i).c ((p.kp i).sd i).c ((p.sd i).c.tick p.now).2 p.now/\(p.kp i).sd (!i)=p.sd (!i)/\(p.kp i).wire=p.wire++((p.sd i).c.tick p.now).2.map (p.fl i)/\(p.kp i).now=p.now):=by
 obtain⟨d,-⟩:=h.ns i;obtain⟨⟨e,m,n⟩,r,s⟩:=lq i ((p.sd i).c.tick p.now).1 ((p.sd i).c.tick p.now).2 h.calm
 rcases AZ d.hv d.gi d.now d.st o hz with k | k
 ·exact .inl ⟨k.1,(congrArg Cn.reached e).trans k.2.2⟩
 have f:∀j,((p.kp i).sd j).str=(p.sd j).str/\((p.kp i).sd j).closed=(p.sd j).closed:=fun j=>by
  show(((p.v6 i _).put i _).sd j).str=_/\(((p.v6 i _).put i _).sd j).closed=_;rw[af]
  cases i <;> cases j <;> exact⟨Z,Z⟩
 have l:Fv (p.kp i) N:=⟨fun j=>by rw[(f j).1,(f j).2];exact h.f2.cl j,fun j=>by rw[(f j).1];exact h.f2.le j,h.f2.sm⟩;exact .inr ⟨h.op i k e m n s (Pr.PV.kp h.pv h.ft i) (Pr.C8 h.ft i) l (fun g=>(sz _ _).symm.trans g) (zC _ _ d.st d.hv.ok.st.2) (by have:=k.st;have:=d.st;omega),by rw[show((p.kp i).sd i).c=_ from e];exact k,m,n,r⟩
theorem nI {p:Pr}(i:Bool)(s:Sd)(l:List Sg)(h:p.kq.length<=p.many):(((p.kl i s).put i l).sd i=s/\((p.kl i s).put i l).sd (!i)=p.sd (!i)/\((p.kl i s).put i l).wire=p.wire++l.map (p.fl i))/\((p.kl i s).put i l).now=p.now/\((p.kl i s).put i l).kq.length<=((p.kl i s).put i l).many:=by
 have k:((p.kl i s).sd i=s/\(p.kl i s).sd (!i)=p.sd (!i))/\(p.kl i s).wire=p.wire/\(p.kl i s).now=p.now/\(p.kl i s).kq=p.kq/\(p.kl i s).many=p.many:=by cases i <;> exact⟨⟨Z,Z⟩,Z,Z,Z,Z⟩
 obtain⟨⟨c,d⟩,e,b,f,g⟩:=k;obtain⟨j,m⟩:=rH i l (p.kl i s) (by rw[f,g];exact h);have a:(p.kl i s).fl i=p.fl i:=by funext s;unfold Pr.fl;rw[b]
 rw[af,af];exact⟨⟨c,d,by rw[j,e,a]⟩,(cD i l _).2.2.1.trans b,m⟩
structure UO (p p':Pr)(i:Bool):Prop where
 op:∃l,Op True (p.sd i).c (p'.sd i).c l p.now/\p'.wire=p.wire++l.map (p.fl i)
 EG:p'.sd (!i)=p.sd (!i)
 now:p'.now=p.now
 all:(p'.sd i).all=(p.sd i).all
theorem UO.none {p:Pr}{i:Bool}(h:Hs (p.sd i).c)(a:(p.sd i).c.pend≠2):UO p p i:=⟨⟨[],.none h a,IK⟩,Z,Z,Z⟩
theorem Cl.recv {P:Pr.BX}{p:Pr}{q N:Bool->Int}{a b:Int}(h:Cl P p [] q N a b)(i:Bool){n:Int}(m:0<=n)(t:(p.sd i).c.pend≠2):Cl P (p.recv i n) [] q N (a+2010) (b+2010)/\UO p (p.recv i n) i:=by
 obtain⟨f,-⟩:=h.ns i;have x:=f.st;have d:=Pr.PV.recv h.pv h.ft i m;have o:=Pr.DK h.ft i n
 have he:(p.sd i).c.oB n=0:=by
  unfold Cn.oB;rw[L7 O,L7 O]
 obtain⟨⟨k,r,s⟩,u,w⟩:=nI i { (p.sd i)with c:=((p.sd i).c.recv p.now n).1,got:=(p.sd i).got++(p.sd i).c.bx.ox n,fin:=(p.sd i).fin||(p.sd i).c.v8 n } ((p.sd i).c.recv p.now n).2 h.calm
 have e:p.recv i n=(p.kl i { (p.sd i)with c:=((p.sd i).c.recv p.now n).1,got:=(p.sd i).got++(p.sd i).c.bx.ox n,fin:=(p.sd i).fin||(p.sd i).c.v8 n }).put i ((p.sd i).c.recv p.now n).2:=by
  unfold Pr.recv;dsimp only;rw[L7 O]
 rw[e]at d o |-;have op:=(uB f.hv (fun _=>f.gi) f.now O t m).1;refine⟨h.op i op (congrArg Sd.c k) r s w d o ?_ (fun g=>(sy _ _ _).symm.trans g) (zB _ _ _) (by have:=op.st;omega),⟨_,by rw[k];exact op,s⟩,r,u,by rw[k]⟩
 have l:∀j,(((p.kl i { (p.sd i)with c:=((p.sd i).c.recv p.now n).1,got:=(p.sd i).got++(p.sd i).c.bx.ox n,fin:=(p.sd i).fin||(p.sd i).c.v8 n }).put i ((p.sd i).c.recv p.now n).2).sd j).str=(p.sd j).str/\(((p.kl i { (p.sd i)with c:=((p.sd i).c.recv p.now n).1,got:=(p.sd i).got++(p.sd i).c.bx.ox n,fin:=(p.sd i).fin||(p.sd i).c.v8 n }).put i ((p.sd i).c.recv p.now n).2).sd j).closed=(p.sd j).closed:=fun j=>by
  rw[af]
  cases i <;> cases j <;> exact⟨Z,Z⟩
 exact⟨fun j=>by rw[(l j).1,(l j).2];exact h.f2.cl j,fun j=>by rw[(l j).1];exact h.f2.le j,h.f2.sm⟩
theorem Cl.shut {P:Pr.BX}{p:Pr}{q N:Bool->Int}{a b:Int}(h:Cl P p [] q N a b)(i:Bool)(k:(p.sd i).c.pend≠2)(t:((p.sd i).str.length:Int)=N i):Cl P (p.shut i) [] q N (a+2010) (b+2010)/\UO p (p.shut i) i:=by
 obtain⟨f,-⟩:=h.ns i;have x:=f.st;have d:=Pr.PV.shut h.pv h.ft i;have e:=Pr.DU h.ft i;unfold Pr.shut at d e |-;dsimp only at d e |-;split
 ·rename_i l;rw[L9 l]at d e;exact⟨⟨d,e,h.dp,h.f2,h.calm,h.st,h.hs,h.pl,h.prt,h.qg⟩,.none (h.hs i) k⟩
 rename_i l;rw[L7 l]at d e;split
 ·rename_i m;rw[L9 m]at d e;exact⟨⟨d,e,h.dp,h.f2,h.calm,h.st,h.hs,h.pl,h.prt,h.qg⟩,.none (h.hs i) k⟩
 rename_i m;rw[L7 m]at d e;obtain⟨⟨n,r,s⟩,u,w⟩:=nI i { (p.sd i)with c:=((p.sd i).c.close p.now).1,closed:=true } ((p.sd i).c.close p.now).2 h.calm;have op:=yv f.hv (fun _=>f.gi) f.now O k;refine⟨h.op i op (congrArg Sd.c n) r s w d e ?_ (fun g=>(rJ _ _ O).symm.trans g) (wH _ _ O) (by have:=op.st;omega),⟨_,by rw[n];exact op,s⟩,r,u,by rw[n]⟩
 have o:∀j,(((p.kl i { (p.sd i)with c:=((p.sd i).c.close p.now).1,closed:=true }).put i ((p.sd i).c.close p.now).2).sd j).str=(p.sd j).str/\((((p.kl i { (p.sd i)with c:=((p.sd i).c.close p.now).1,closed:=true }).put i ((p.sd i).c.close p.now).2).sd j).closed=true->(p.sd j).closed=true\/j=i):=fun j=>by
  rw[af]
  cases i <;> cases j <;> first | exact⟨Z,fun g=>.inl g⟩ | exact⟨Z,fun _=>.inr Z⟩
 exact⟨fun j g=>by
  rw[(o j).1]
  rcases(o j).2 g with g | rfl
  ·exact h.f2.cl j g
  exact t,fun j=>by rw[(o j).1];exact h.f2.le j,h.f2.sm⟩
theorem Cl.send {P:Pr.BX}{p:Pr}{q N:Bool->Int}{a b:Int}(h:Cl P p [] q N a b)(i:Bool)(n:Int)(r:(p.sd i).c.pend≠2)(f:(((p.send i n).sd i).str.length:Int)<=N i):Cl P (p.send i n) [] q N (a+2010) (b+2010)/\UO p (p.send i n) i:=by
 obtain⟨l,-⟩:=h.ns i;have y:=l.st;have d:=Pr.PV.send h.pv h.ft i n;have e:=Pr.DT h.ft i n;unfold Pr.send at d e f|-;dsimp only at d e f|-;split
 ·rename_i m;rw[L9 m]at d e;exact⟨⟨d,e,h.dp,h.f2,h.calm,h.st,h.hs,h.pl,h.prt,h.qg⟩,.none (h.hs i) r⟩
 rename_i m;rw[L7 m]at d e f;split
 ·rename_i s;rw[L9 s]at d e;exact⟨⟨d,e,h.dp,h.f2,h.calm,h.st,h.hs,h.pl,h.prt,h.qg⟩,.none (h.hs i) r⟩
 rename_i s;rw[L7 s]at d e f;obtain⟨⟨k,o,t⟩,u,w⟩:=nI i { (p.sd i)with c:=((p.sd i).c.send p.now (Pr.bytes (p.sd i) n)).1,sent:=(p.sd i).sent+(p.sd i).c.pd (Pr.bytes (p.sd i) n) } ((p.sd i).c.send p.now (Pr.bytes (p.sd i) n)).2 h.calm;have z:=(h.ft.sd i).last;have x:=(h.ft.sd i).sl;have A:=(h.ft.sd i).len
 have B:((Pr.bytes (p.sd i) n).length:Int)<=1000:=by
  unfold Pr.bytes;rw[Lt,Lg];omega
 have op:=A6 l.hv (fun _=>l.gi) l.now O r (Pr.bytes (p.sd i) n) O;rw[k]at f;refine⟨h.op i op (congrArg Sd.c k) o t w d e ⟨fun j g=> ?_,fun j=> ?_,h.f2.sm⟩ (fun g=>(su _ _ _).symm.trans g) (zA _ _ _) (by have:=op.st;omega),⟨_,by rw[k];exact op,t⟩,o,u,by rw[k]⟩
 ·rcases(show j=i\/j= !i by cases i <;> cases j <;> simp)with rfl | rfl
  ·rw[k]at g;exact absurd (.inl g) m
  rw[o]at g|-;exact h.f2.cl _ g
 rcases(show j=i\/j= !i by cases i <;> cases j <;> simp)with rfl | rfl
 ·rw[k];exact f
 rw[o];exact h.f2.le _
end Go.Proofs.YtcmncipikdpnbaaGreatDoor
