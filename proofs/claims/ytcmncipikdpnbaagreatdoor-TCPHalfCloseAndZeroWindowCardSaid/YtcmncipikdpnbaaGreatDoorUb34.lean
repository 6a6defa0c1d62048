import Derived.Test.YtcmncipikdpnbaaGreatDoorUb33
namespace Go.Proofs.YtcmncipikdpnbaaGreatDoor
theorem xa.trans {c d e:Cn}{l m:List Sg}(h:xa c d l)(k:xa d e m):xa c e (l++m):=by
 have h1:=h.nx;have h2:=k.nx;refine⟨k.fM.trans h.fM,O,k.held.trans h.held,k.base.trans h.base,k.lim.trans h.lim,k.AC.trans h.AC,k.shut.trans h.shut,k.cf.trans h.cf,k.st.trans h.st,k.gi.trans h.gi,fun o a b j=> ?_,fun s hs=> ?_⟩
 ·by_cases n:o<d.next
  ·obtain⟨s,hs,g⟩:=h.Gt o a n j;exact⟨s,LO _ hs,g⟩
  obtain⟨s,hs,lo,g1,f,i,p⟩:=k.Gt o O b (by rw[h.last];exact j);exact⟨s,Mm _ hs,lo,K6,f,i,by rw[<-h.lim];exact p⟩
 rcases LE.1 hs with hs | hs
 ·obtain⟨lo,g1,f,i⟩:=h.Gb s hs;exact⟨lo,g1,f,O⟩
 obtain⟨lo,g1,f,i⟩:=k.Gb s hs;exact⟨lo,K6,by rw[<-h.fM];exact f,i⟩
structure Op (K:Prop)(c d:Cn)(l:List Sg)(now:Int):Prop where
 sv:SV c d l
 rv:RV c d l now
 fM:d.fM=c.fM
 lim:d.limit=c.limit
 has:∀i,d.bx.has i↔c.bx.has i
 exp:d.expected=c.expected
 hs:Hs d
 st:d.st=c.st\/3<=d.st
 xv:XV K c d now
 AC:d.largest=c.largest
theorem Op.of {K:Prop}{c e:Cn}{now:Int}(p:Pre K c e now)(d:aI now)(ok:e.Ok)(so:ae e.st=true->F6 e)(hs:Hs e)(h0:e.st≠0)(a:e.st=c.st\/3<=e.st)(f:e.fM=c.fM)(g:e.limit=c.limit)(h:∀i,e.bx.has i↔c.bx.has i)(j:e.expected=c.expected)(k:e.largest=c.largest):Op K c (e.push now).1 (e.push now).2 now:=by
 obtain⟨g1,l,m,n,s,o,q,t,r,b⟩:=p.push ok d h0 so;exact⟨g1,l,m.trans f,n.trans g,fun i=>(o i).trans (h i),q.trans j,hs.push now,by rw[dA];exact a,r,b.trans k⟩
theorem Op.none {c:Cn}{now:Int}(h:Hs c)(d:c.pend≠2):Op True c c [] now :=
 ⟨⟨L9 _,L9 _,L9 _,L9 _,Z,fun o a b=>by omega,fun s hs=>by cases hs⟩,⟨fun _ h=>h,L9 _,Z,d,.inl ⟨Z,Z,.inl ⟨Z,Z,Z⟩⟩⟩,Z,Z,fun _=>NJ,Z,h,.inl Z,.refl c now,Z⟩
theorem Hv.so {c:Cn}{N:Int}(h:Hv c N)(h1:1<=c.fM):F6 c:=⟨h1,by have:=h.bu;omega,h.nl⟩
theorem j9 {K:Prop}{c x:Cn}{now:Int}(b:aI now)(p:Pre K c x now)(ok:x.Ok)(so:F6 x)(hs:Hs x)(h0:x.st≠0)(a:x.st=c.st)(d:x.fM=c.fM)(e:x.limit=c.limit)(f:x.bx=c.bx)(g:x.expected=c.expected)(h:x.largest=c.largest):Op K c (x.oi now []).1 (x.oi now []).2 now:=by
 unfold Cn.oi;dsimp only;rw[LD];split
 ·exact Op.of p.gB b ok.gB (fun _=>⟨so.u1,so.bu,so.nl⟩) ⟨hs.ov,hs.vo,hs.st,hs.ts⟩ h0 (.inl a) d e (fun i=>by show x.bx.has i↔_;rw[f]) g h
 exact Op.of p b ok (fun _=>so) hs h0 (.inl a) d e (fun i=>by rw[f]) g h
theorem BD {c:Cn}{N:Int}(h:Hv c N)(hu:1<=c.fM){now:Int}(t:aI now)(G:3<=c.st)(ht:c.tries<=11)(hz:c.flight<=0->0<c.iq->c.next+20<=c.limit) :
  (c.st=9/\(c.tick now).1.st=0/\(c.tick now).1.reached=true)\/Op (c.dl.due now=false) c (c.tick now).1 (c.tick now).2 now:=by
 have ok:=h.ok;have L:=ok.st;have so:=h.so hu;have hs:=h.hs;unfold Cn.tick;rw[L5 O];split
 ·rename_i h9;refine .inl ⟨h9.1,dB c now _ (.inr Z),?_⟩;rw[cu (cR c now 9 0)];exact h.ov (h.st O)
 refine .inr ?_;split
 ·rename_i f;dsimp only;rw[L5 O];have an:bU c.st=true:=Lc ⟨G,L.2⟩;rw[show(if bU c.st=true then(Cn.expire { c with tries:=c.tries+1,tm:=c.tm.og.ka,dl:=.wA now c.tm.og.ka.value }).1.oi now (Cn.expire { c with tries:=c.tries+1,tm:=c.tm.og.ka,dl:=.wA now c.tm.og.ka.value }).2 else(({ c with tries:=c.tries+1,tm:=c.tm.og.ka,dl:=.wA now c.tm.og.ka.value }:Cn).v6,[({ c with tries:=c.tries+1,tm:=c.tm.og.ka,dl:=.wA now c.tm.og.ka.value }:Cn).qI]))=(Cn.expire { c with tries:=c.tries+1,tm:=c.tm.og.ka,dl:=.wA now c.tm.og.ka.value }).1.oi now (Cn.expire { c with tries:=c.tries+1,tm:=c.tm.og.ka,dl:=.wA now c.tm.og.ka.value }).2 from L7 an];obtain⟨e,he⟩:∃e:Cn,e={ c with tries:=c.tries+1,tm:=c.tm.og.ka,dl:=.wA now c.tm.og.ka.value }:=⟨_,Z⟩;have b4:0<=c.tm.backs:=ok.tm.1.2.2.2.2.1;have l:e.Ok:=by rw[he];exact ok.back t (O:¬12<c.tries+1)
  rw[<-he]
  have u:Pre (c.dl.due now=false) c e now:=by
   rw[he];refine⟨L9 _,Z,L9 _,L9 _,Z,fun _ h=>h,L9 _,Z,Z,.inr (.inl ⟨Z,Z,Z⟩),L9 _,id,fun g=>⟨g.sf,g.fa,g.ub⟩,fun g _ _ _=>(by rw[f]at g;cases g),fun g=> ?_,fun _ _=>by have h1:=(lz (m:=c.tm.og.ka) (k:=0) (fun a=>absurd a D)).1;show now<now+c.tm.og.ka.value;have h2:ru 0=4:=Z;omega⟩
   -- the next wait
   unfold Al.due at f;simp only[Ly,Lh]at f;have h1:=g.dl f.1;have h2:=nM g.t0
   have G:0<c.tries+1->min (c.tries+1) 8<=c.tm.og.ka.backs:=fun _=>by
    have M:=g.bk;have h5:=g.t0;have h6:=b4;show _<=min (c.tm.backs+1) 8;omega
   have M:=lz G;exact⟨by show 0<=c.tries+1;have:=g.t0;omega,G,by show BC (c.tries+1)<=now;omega,fun _=>⟨by show BC (c.tries+1)<=now;omega,M.1,L9 _,M.2⟩⟩
  have w:F6 e:=by rw[he];exact⟨so.u1,so.bu,so.nl⟩
  have y:Hs e:=by rw[he];exact⟨hs.ov,hs.vo,hs.st,hs.ts⟩
  have A:e.sc=c.sc/\e.st=c.st/\e.bx=c.bx/\e.limit=c.limit/\e.expected=c.expected/\e.gi=c.gi/\e.last=c.last/\e.ann=c.ann/\e.room=c.room/\e.largest=c.largest:=by rw[he];exact⟨Z,Z,Z,Z,Z,Z,Z,Z,Z,Z⟩
  obtain⟨A,f2,f3,z,I,f6,P,f8,f9,x⟩:=A;have B:e.fM=c.fM:=by unfold Cn.fM;rw[A]
  have fn:e.next=c.next:=by unfold Cn.next;rw[A]
  have S:e.iq=c.iq:=by unfold Cn.iq;rw[P,fn]
  have q:=l.expire;unfold Cn.expire at q|-;have T:e.flight=c.flight:=by unfold Cn.flight;rw[A]
  have bl:e.st≠0:=O
  split
  ·rename_i J;rw[L7 J]at q;refine j9 t ?_ q ⟨w.u1,w.bu,w.nl⟩ ⟨y.ov,y.vo,y.st,y.ts⟩ (by show e.st≠0;omega) f2 B z f3 I x;exact u.trans ⟨L9 _,Z,L9 _,L9 _,Z,fun _ h=>h,L9 _,Z,Z,.inr (.inl ⟨Z,Z,Z⟩),.same now Z Z Z Z Z Z Z Z Z⟩
  rename_i J;rw[L5 J]at q;split
  ·exact j9 t u l w y bl f2 B z f3 I x
  rename_i hq;rw[L5 hq]at q;have U:=l.iq;have V:0<e.iq:=by have h1:=U.1;rcases Mx 0 e.iq with g | g;exact g;exact absurd O hq
  have a2:=hz (by rw[<-T];exact MP.1 J) (by rw[<-S];exact V);have a5:=l.gi;have b5:e.iq=max 0 (e.last-e.next):=Z;obtain⟨n,C⟩:∃n,n=max 1 (min (min e.gi (e.limit-e.next)) e.iq):=⟨_,Z⟩;rw[<-C]at q|-;have K:1<=n/\e.next+n<=e.last/\e.next+n<=e.limit:=by rw[fn,z]at *;omega
  have bn:e.base<=e.next:=by have:=w.bu;have:=l.fM;omega
  have s1:=(xa.refl e).out l bn now (n:=n) O K.2.1 (fun _=>K.2.2);have a1:=(Said.refl e).more (ee l) { dH with s:=e.data e.next (e.kn n),fin:=e.shut&&decide (e.last<e.kn n) } e.next Z Z (e.nY n) (ii e n) ⟨Z,Z,Z,Z⟩;rw[LD]at s1 a1;have p:xa e (e.nY n) [e.kl n]:=s1.to _ Z Z Z Z Z Z Z Z Z Z
  have bo:F6 (e.nY n):=by
   have r:=fH l (now:=now) (n:=n) O K.2.1;refine⟨by rw[p.fM];exact w.u1,by rw[p.base,p.fM];exact w.bu,?_⟩;rw[p.last,p.shut,show(e.nY n).next=e.kn n from r.1];have h1:=r.2.2;unfold Cn.kn;split
   ·rename_i hh;rw[L7 hh.1];omega
   split <;> omega
  unfold Cn.oi;dsimp only;rw[L5 (by rw[show(e.nY n).pend=0 from Z];intro g;have:=g.1;omega)];have h0:(e.nY n).st≠0:=by rw[show(e.nY n).st=e.st from Z];omega
  have E:=(oE q bo t).1;obtain⟨a3,p3⟩:=gL q t h0;have j:=p.trans E;have F:=(show Said e (e.nY n) [e.kl n]from a1).trans a3 (ee l);have hx:=cE F.fx;refine⟨⟨by rw[j.fM,B];exact L9 _,by have h1:=j.nx;rw[fn]at h1;exact h1,by rw[j.lim,z];exact L9 _,by rw[j.last,P];exact L9 _,j.cf.trans u.cf,fun o a b d=> ?_,fun s hs=> ?_⟩,⟨fun i hi=>by rw[F.fx.bx,f3];exact hi,by rw[hx.1,I];exact L9 _,F.fx.tq.trans u.tq,p3,?_⟩,j.fM.trans B,j.lim.trans z,fun i=>by rw[F.fx.bx,f3],hx.1.trans I,?_,?_,?_,?_⟩
  ·obtain⟨s,hs,lo,g1,W,X,g4⟩:=j.Gt o O b (by rw[j.last]at d;exact d);exact⟨s,hs,lo,by rw[<-u.cf];exact g1,W,X,by rw[j.lim];exact g4⟩
  ·obtain⟨lo,g1,W,X⟩:=j.Gb s hs;exact⟨lo,by rw[<-u.cf];exact g1,by rw[j.fM];exact W,X⟩
  ·rcases F.k with⟨k1,-⟩ | ⟨k1,k2,k3,k4⟩
   ·exact absurd k1 FE
   have h1:=(ks (ee l)).1;rw[f8]at h1;exact .inr ⟨k1,k2,Lz h1 (Mr k3.symm),k4⟩
  ·refine Hs.push ?_ now;exact y.fx (ii e n) Z Z
  ·rw[dA];exact .inl f2
  ·have ot:=io (e.nY n) now;have x1:Ex True e (e.nY n) now:=.same now Z Z Z p.fM Z Z Z Z Z;have x2:=uX E ot.1 (ot.2 h0);have a6:(e.nY n).next<=((e.nY n).push now).1.next:=E.nx;have r:=(fH l (now:=now) (n:=n) O K.2.1);have a7:(e.nY n).next=e.kn n:=r.1;refine⟨u.ex.trans (x1.trans x2 (Mr p.fM.symm) (Mr E.fM.symm) p.nx) (Mr B.symm) (Mr j.fM.symm) (Mr fn.symm),fun _=>.inr ?_,fun _=>(ot.2 h0).1,fun _=>nK q t⟩;have hr:=r.2.1;rw[S,z,f6,fn]at C;rw[fn]at hr;have b6:=b5;rw[S,P,fn]at b6;show c.next+min 20 (c.last-c.next)<=((e.nY n).push now).1.next;omega
  exact(E.AC.trans p.AC).trans x
 rename_i f;exact j9 t ⟨L9 _,Z,L9 _,L9 _,Z,fun _ h=>h,L9 _,Z,Z,.inr (.inl ⟨Z,Z,Z⟩),.of JC (.same now Z Z Z Z Z Z Z Z Z)⟩ ok so hs O Z Z Z Z Z Z
theorem BE {c:Cn}{N:Int}(h:Hv c N)(j:ae c.st=true->1<=c.fM){now:Int}(k:aI now)(h2:2<=c.st)(l:c.pend≠2)(x:List UInt8)(n:c.last+x.length<=1073741824):Op True c (c.send now x).1 (c.send now x).2 now:=by
 have ok:=h.ok;unfold Cn.send;split
 ·exact .none h.hs l
 rename_i d
 have b:c.shut=false/\¬(c.st=5\/c.st=9):=by
  have h1:c.refusal=0:=by simpa using d
  unfold Cn.refusal at h1;rw[L5 O]at h1;split at h1
  ·rename_i g;exact⟨g.1,O⟩
  cases h1
 obtain⟨b,e⟩:=b;have o:=ok.hlen
 have f:c.last<=c.base+((c.held++x.take (c.nX x).toNat).length:Int)/\c.base+((c.held++x.take (c.nX x).toNat).length:Int)<=c.last+x.length:=by
  rw[La,Le];unfold Cn.last;omega
 have m:Cn.Ok { c with held:=c.held++x.take (c.nX x).toNat }:={ ok with b1:=by show c.base+((c.held++x.take (c.nX x).toNat).length:Int)<=_;omega };refine Op.of ⟨L9 _,Z,L9 _,f.1,Z,fun _ h=>h,L9 _,Z,Z,.inr (.inl ⟨Z,Z,Z⟩),L9 _,id,fun g=>⟨g.sf,fun a=>absurd a e,?_⟩,fun _ _ _ _=>rfl,fun g=>⟨g.t0,g.bk,g.cw,g.dl⟩,fun g=>g trivial⟩ k m (fun hs=> ?_) ⟨h.ov,h.vo,h.st,h.ts⟩ (by show c.st≠0;omega) (.inl Z) Z Z (fun _=>NJ) Z Z
 ·have h1:=g.ub;have h2:=ok.fM;have i:=h.nl;rw[b]at i;show min c.fM _<=c.base
  simp at i
  omega
 have so:=h.so (j hs);refine⟨so.u1,so.bu,?_⟩;have h1:=so.nl;show c.next<=c.base+((c.held++x.take (c.nX x).toNat).length:Int)+(if c.shut=true then 1 else 0);have h2:=f.1;omega
theorem zU {c:Cn}{N:Int}(h:Hv c N)(t:ae c.st=true->1<=c.fM){now:Int}(l:aI now)(h2:2<=c.st)(u:c.pend≠2):Op True c (c.close now).1 (c.close now).2 now:=by
 have ok:=h.ok;unfold Cn.close;split
 ·exact .none h.hs u
 rename_i w;have m:=ok.tr2 (fun h0=>w (.inl h0));have k:Cn.Ok { c with shut:=true }:={ ok with };have o:c.next<=c.last+1:=by have h1:=h.nl;split at h1 <;> omega
 dsimp only;rw[L5 O];have p:Pre True c { c with shut:=true } now:=⟨L9 _,Z,L9 _,L9 _,Z,fun _ h=>h,L9 _,Z,Z,.inr (.inl ⟨Z,Z,Z⟩),L9 _,fun _=>rfl,fun g=>⟨fun a=>(by cases a),g.fa,g.ub⟩,fun _ _ _ _=>rfl,fun g=>⟨g.t0,g.bk,g.cw,g.dl⟩,fun g=>g trivial⟩;split
 ·rename_i f;exact Op.of p l k (fun hs=>by have h1:ae c.st=true:=hs;rw[f]at h1;cases h1) ⟨h.ov,h.vo,h.st,h.ts⟩ (by show c.st≠0;omega) (.inl Z) Z Z (fun _=>NJ) Z Z
 rename_i f;have sd:=jl { c with shut:=true } now 5;have d:=jk { c with shut:=true } now 5;have x:=ok.st
 have b:(Cn.step { c with shut:=true } now 5).st=c.st\/(c.st=3/\(Cn.step { c with shut:=true } now 5).st=4)\/(c.st=6/\(Cn.step { c with shut:=true } now 5).st=8):=by
  rw[Cn.Ad];show(match gb c.st 5 with | none=>c.st | some n=>n)=c.st\/(c.st=3/\(match gb c.st 5 with | none=>c.st | some n=>n)=4)\/(c.st=6/\(match gb c.st 5 with | none=>c.st | some n=>n)=8);have y:c.st=3\/c.st=4\/c.st=5\/c.st=6\/c.st=7\/c.st=8\/c.st=9:=O
  rcases y with e | e | e | e | e | e | e <;> rw[e] <;> simp[gb]
 have j:=cu d.fx;have q:=cE d.fx;have r:(Cn.step { c with shut:=true } now 5).fM=c.fM:=by unfold Cn.fM;rw[sd.sc]
 have s:ae (Cn.step { c with shut:=true } now 5).st=true->ae c.st=true:=fun g=>by
  rcases b with e | ⟨e,-⟩ | ⟨e,-⟩
  ·rw[<-e];exact g
  ·rw[e];rfl
  rw[e];rfl
 refine Op.of (p.trans (.same now sd d (by rcases b with e | ⟨-,e⟩ | ⟨-,e⟩;exact .inl e;exact .inr ⟨Z,O,O⟩;exact .inr ⟨Z,O,O⟩))) l (k.step l m 5) (fun hs=> ?_) ⟨fun g=> ?_,fun g=> ?_,fun g=> ?_,fun g=> ?_⟩ O O r sd.lim (fun i=>by rw[d.fx.bx]) q.1 sd.AC
 ·have so:=h.so (t (s hs));refine⟨by rw[r];exact so.u1,by rw[r,sd.base];exact so.bu,?_⟩;unfold Cn.next Cn.last;rw[sd.sc,sd.held,sd.base,sd.shut];exact o
 ·exact j.trans (h.ov (d.over.symm.trans g))
 ·exact d.over.trans (h.vo (j.symm.trans g))
 ·exact d.over.trans (h.st O)
 have h1:=h.ts (d.over.symm.trans g);omega
theorem uZ {c:Cn}{N:Int}(h:Hv c N)(M:ae c.st=true->1<=c.fM){now:Int}(G:aI now)(h2:2<=c.st)(P:c.pend≠2){n:Int}(h0:0<=n):Op True c (c.recv now n).1 (c.recv now n).2 now/\(c.bx.nx-c.bx.rd<=n->(c.recv now n).1.bx.rd=(c.recv now n).1.bx.nx/\(c.recv now n).1.bx.nx=c.bx.nx/\((c.bx.rd=c.bx.nx/\(c.recv now n).1=c)\/aV c.st=false\/(c.recv now n).1.most<(c.recv now n).1.ann+max 1 (min c.gi (c.room/2)))):=by
 have ok:=h.ok;obtain⟨I,t2,t3,z⟩:=Bx.D6 c.bx n;have w:=ok.take n;obtain⟨d,f⟩:∃d:Cn,d={ c with bx:=c.bx.take n }:=⟨_,Z⟩;have q:d.bx=c.bx.take n:=by rw[f]
 rw[<-f]at w
 have j:d.expected=c.expected/\d.reached=c.reached:=by
  rw[f];unfold Cn.expected Cn.reached;dsimp only;rw[I];exact⟨Z,Z⟩
 have r:Hs d:=⟨fun g=>by rw[j.2];exact h.ov (by rw[f]at g;exact g),fun g=>by have t:=h.vo (by rw[<-j.2];exact g);rw[f];exact t,fun g=>by have t:=h.st (by rw[f]at g;exact g);rw[f];exact t,fun g=>by have t:=h.ts (by rw[f]at g;exact g);rw[f];exact t⟩
 have p:Pre True c d now:=by
  refine⟨?_,?_,?_,?_,?_,fun i hi=>by rw[q];exact(z i).2 hi,by rw[j.1];exact L9 _,?_,?_,.inr (.inl ⟨?_,?_,j.1⟩),?_⟩ <;> rw[f] <;> first | rfl | exact L9 _ | exact .same now Z Z Z Z Z Z Z Z Z
 have S:d.st=c.st/\d.fM=c.fM/\d.limit=c.limit/\d.pend=c.pend/\d.room=c.room/\d.gi=c.gi/\d.ann=c.ann:=by rw[f];exact⟨Z,Z,Z,Z,Z,Z,Z⟩
 obtain⟨x,J,K,bd,T,U,cX⟩:=S
 have A:c.bx.nx-c.bx.rd<=n->d.bx.rd=d.bx.nx:=fun g=>by
  have V:=ok.bx.xK;rw[q];unfold Bx.take;split
  ·omega
  show c.bx.rd+min n (c.bx.nx-c.bx.rd)=c.bx.nx;omega
 have m:d.bx.nx=c.bx.nx:=by rw[q];exact I
 have so:∀e:Cn,e.sc=c.sc->e.base=c.base->e.held=c.held->e.shut=c.shut->ae c.st=true->F6 e:=fun e u y W X e5=>by
  have s:=h.so (M e5);exact⟨by unfold Cn.fM;rw[u];exact s.u1,by unfold Cn.fM;rw[u,y];exact s.bu,by unfold Cn.next Cn.last;rw[u,y,W,X];exact s.nl⟩
 have hid:Op True c d [] now:=by
  refine⟨⟨p.fM,by rw[p.nx];exact L9 _,p.lim,p.last,p.cf,fun o a b=>by rw[p.nx]at b;omega,fun s hs=>(by cases hs)⟩,⟨p.has,p.exp,p.tq,by rw[bd];exact P,.inl ⟨Z,p.ann,.inl ⟨bd,by rw[f],j.1⟩⟩⟩,J,K,fun i=>by rw[q];exact z i,j.1,r,.inl x,⟨p.ex,fun _=>.inl p.nx,fun g a=> ?_,fun g=> ?_⟩,by rw[f]⟩
  ·rw[f]at a|-;exact g a
  rw[f];exact g
 have e:c.recv now n=if c.bx.nB n=[]then(d,[])else if d.tE d.gi=false\/aV d.st=false then(d,[])else d.gB.push now:=by
  rw[f];unfold Cn.recv;rw[L5 O]
 rw[e];split
 ·rename_i hz;refine⟨hid,fun g=>⟨A g,m,.inl ?_⟩⟩
  -- nothing was taken
  unfold Bx.nB at hz;have V:=ok.bx.xK
  have B:min n (c.bx.nx-c.bx.rd)<=0:=by
   split at hz
   ·assumption
   rename_i L
   exfalso
   have:=congrArg List.length hz;rw[kg _ _ _ ok.bx.one (by have:=ok.bx.Ck;omega)]at this
   simp at this
   omega
  refine⟨O,?_⟩;have e:c.bx.take n=c.bx:=by unfold Bx.take;rw[L7 B]
  rw[f,e]
 split
 ·rename_i l;refine⟨hid,fun g=>⟨A g,m,.inr ?_⟩⟩
  rcases l with l | l
  ·refine .inr ?_;unfold Cn.tE at l;have l:=Nb l;rw[T,U]at l;show d.most<d.ann+max 1 (min c.gi (c.room/2));omega
  exact .inl (by rw[<-x];exact l)
 rename_i l;have hb:=ee w;have cF:Op True c (d.gB.push now).1 (d.gB.push now).2 now:=Op.of p.gB G w.gB (fun hs=>so d.gB (by rw[f];rfl) (by rw[f];rfl) (by rw[f];rfl) (by rw[f];rfl) (by rw[<-x];exact hs)) ⟨r.ov,r.vo,r.st,r.ts⟩ (by show d.st≠0;omega) (.inl x) J K (fun i=>by show d.bx.has i↔_;rw[q];exact z i) j.1 (by rw[f];rfl);refine⟨cF,fun g=> ?_⟩;obtain⟨k,kp⟩:=gL w.gB G (by show d.st≠0;omega);have C:(d.gB.push now).1.bx=d.bx:=k.fx.bx;refine⟨by rw[C];exact A g,by rw[C];exact m,.inr (.inr ?_)⟩
 rcases k.k with⟨-,-,E,-⟩ | ⟨-,-,E,-⟩
 ·exact absurd E kp
 have F:d.tE d.gi=true:=by
  cases L:d.tE d.gi with
  | true=>rfl
  | false=>exact absurd (.inl L) l
 have u:(d.gB.push now).1.ann=d.most:=by
  rw[E];show d.raised d.gi=_;unfold Cn.raised;rw[L7 F]
 have y:(d.gB.push now).1.most=d.most:=by unfold Cn.most;rw[C]
 rw[u,y];omega
def fY (i:Int)(g:Sg):Int:=aE g.sq i
def iL (i:Int)(g:Sg):Int:=aE g.ak i
theorem pp (i:Int){k:Int}(h0:0<=k)(h1:k<2147483648):aE (aw i k) i=k:=by unfold aE aw;omega
structure Dt (i N nx:Int)(g:Sg):Prop where
 sq:g.sq=aw i (fY i g)
 lo:1<=fY i g
 hi:fY i g+g.s.length+mR g<=nx
 n:(fY i g+g.s.length<=N+1/\(g.fin=true->fY i g+g.s.length=N+1))\/(g.s=[]/\g.fin=false)
theorem Dt.mono {i N nx a:Int}{g:Sg}(h:Dt i N nx g)(b:nx<=a):Dt i N a g:=⟨h.sq,h.lo,by have:=h.hi;omega,h.n⟩
structure DI (s r:Cn)(D0 A:List Sg)(q N:Int):Prop where
 tq:r.tq=s.cf.kc
 seg:∀g∈D0,Dt s.cf.kc N s.next g
 ack:∀g∈A,s.fM<=iL s.cf.kc g/\iL s.cf.kc g<=r.expected+1/\(r.reached=false->iL s.cf.kc g+g.win<=r.ann+1)
 Hg:A.Pairwise fun g h=>iL s.cf.kc g<=iL s.cf.kc h
 fM:s.fM<=r.expected+1
 Ds:r.expected+1<=s.next
 lim:r.reached=false->s.limit<=r.ann+1
 safe:∀o,q<=o->o<s.next->o<=N->r.bx.has (o-1)\/∃g∈D0,fY s.cf.kc g<=o/\o<fY s.cf.kc g+g.s.length/\fY s.cf.kc g+g.s.length<=r.ann+1
 told:s.fM=r.expected+1\/r.pend=1\/∃g∈A,iL s.cf.kc g=r.expected+1
 EX:r.reached=false->s.limit=r.ann+1\/∃g∈A,iL s.cf.kc g+g.win=r.ann+1
 Hh:∀o,r.bx.has o->o+1<s.next
 Ez:r.ended=true->s.next=N+2
theorem DI.FB {s r:Cn}{a A0 A:List Sg}{q N:Int}(h:DI s r a (A0++A) q N){s':Cn}{l:List Sg}(f:SV s s' l)
  (hA:(A0=[]/\s'.fM=s.fM/\s'.limit=s.limit)\/∃g,A0=[g]/\s'.fM=iL s.cf.kc g/\s'.limit=max s.limit (iL s.cf.kc g+g.win))
  (M:s'.next<=N+2)(t:s'.next<=s'.last\/s'.last=N+1)(hl:∀g∈l,1<=fY s.cf.kc g/\((fY s.cf.kc g+g.s.length<=N+1/\(g.fin=true->fY s.cf.kc g+g.s.length=N+1))\/(g.s=[]/\g.fin=false)))(h0:0<=s.fM)(G:N<=99000) :
  DI s' r (a++l) A q N:=by
 have i:=f.cf;have u:=f.nx
 have j:∀g∈l,∀lo,g.sq=aw s.cf.kc lo->s'.fM<=lo->lo+g.s.length+mR g<=s'.next->fY s.cf.kc g=lo:=by
  intro g _ lo e h1 h2;have:=f.fM;have:=lw g;unfold fY;rw[e];exact pp _ O O
 have d:r.reached=false->s'.limit<=r.ann+1:=by
  intro c;have h1:=h.lim c
  rcases hA with⟨-,-,e⟩ | ⟨g,rfl,-,e⟩
  ·rw[e];exact h1
  have:=(h.ack g FE).2.2 c;rw[e];omega
 refine⟨h.tq.trans (by rw[i]),?_,?_,?_,?_,by have:=h.Ds;omega,d,?_,?_,?_,fun o w=>by have:=h.Hh o w;omega,fun g=>by have:=h.Ez g;omega⟩
 ·intro g b;rw[i]
  rcases LE.1 b with b | b
  ·exact(h.seg g b).mono u
  obtain⟨lo,e,h1,h2⟩:=f.Gb g b;have y:=j g b lo e h1 h2;obtain⟨n,p⟩:=hl g b;exact⟨by rw[y];exact e,n,by rw[y];exact h2,p⟩
 ·intro g b;rw[i];obtain⟨n,p,C⟩:=h.ack g (by simp[b]);refine⟨?_,p,C⟩
  rcases hA with⟨-,e,-⟩ | ⟨x,rfl,e,-⟩
  ·rw[e];exact n
  rw[e];exact(NY.1 h.Hg).1 g b
 ·rw[i];exact(NQ.1 h.Hg).2.1
 ·rcases hA with⟨-,e,-⟩ | ⟨x,rfl,e,-⟩
  ·rw[e];exact h.fM
  rw[e];exact(h.ack x FE).2.1
 ·intro o w h1 h2;rw[i];by_cases I:o<s.next
  ·rcases h.safe o w I h2 with k | ⟨g,b,k⟩
   ·exact .inl k
   exact .inr ⟨g,by simp[b],k⟩
  obtain⟨g,b,lo,e,n,p,C⟩:=f.Gt o O h1 O;obtain⟨m,E,J,K⟩:=f.Gb g b;have y:=j g b m E J K;have P:=lw g;by_cases c:r.reached=true
  ·have:=h.Ds;have L:r.expected=r.bx.nx+1:=by unfold Cn.expected;rw[L7 c]
   have:=h.Ez (by unfold Cn.reached at c;simp at c;exact c.1);omega
  have z:r.reached=false:=by simpa using c
  have B:lo=m:=by
   have F:=e.symm.trans E;have S:=f.fM;have T:=h.fM;have U:=h.Ds;unfold aw at F;omega
  subst B;exact .inr ⟨g,by simp[b],O,O,by have:=d z;omega⟩
 ·rw[i]
  rcases h.told with k | k | ⟨g,b,k⟩
  ·rcases hA with⟨-,e,-⟩ | ⟨x,rfl,e,-⟩
   ·exact .inl (e.trans k)
   obtain⟨F,V,-⟩:=h.ack x FE;exact .inl O
  ·exact .inr (.inl k)
  rcases LE.1 b with b | b
  ·rcases hA with⟨rfl,-,-⟩ | ⟨x,rfl,e,-⟩
   ·cases b
   rw[Lu.1 b]at k;exact .inl (e.trans k)
  exact .inr (.inr ⟨g,b,k⟩)
 intro c;rw[i]
 rcases h.EX c with k | ⟨g,b,k⟩
 ·rcases hA with⟨-,-,e⟩ | ⟨x,rfl,-,e⟩
  ·exact .inl (e.trans k)
  have:=(h.ack x FE).2.2 c;exact .inl O
 rcases LE.1 b with b | b
 ·rcases hA with⟨rfl,-,-⟩ | ⟨x,rfl,-,e⟩
  ·cases b
  rw[Lu.1 b]at k;have:=h.lim c;exact .inl O
 exact .inr ⟨g,b,k⟩
theorem DI.If {s r:Cn}{D0 a A:List Sg}{q N:Int}(h:DI s r (D0++a) A q N){b:Cn}{l:List Sg}{now:Int}(t:RV r b l now)
  (F:(D0=[]/\(∀i,b.bx.has i->r.bx.has i)/\(b.ended=true->r.ended=true))\/∃g,D0=[g]/\(fY s.cf.kc g-1+g.s.length<=r.ann->∀i,fY s.cf.kc g-1<=i->i<fY s.cf.kc g-1+g.s.length->b.bx.has i)/\(∀i,b.bx.has i->r.bx.has i\/(fY s.cf.kc g-1<=i/\i<fY s.cf.kc g-1+g.s.length))/\(b.ended=true->r.ended=true\/g.fin=true))
  (u:b.reached=false->r.reached=false)(hx:0<b.bx.nx->b.bx.has (b.bx.nx-1))(hf:b.ended=true->b.ox=N)(h0:0<=r.expected)(V:s.next<=N+2)(L:N<=99000) :
  DI s b a (A++l) q N:=by
 have W:r.ann<=b.ann:=by
  rcases t.k with⟨-,e,-⟩ | ⟨-,-,e,-⟩
  ·omega
  exact e
 have X:=t.exp
 have K:∀o,b.bx.has o->o+1<s.next:=by
  intro o z
  rcases F with⟨-,k,-⟩ | ⟨g,rfl,-,k,-⟩
  ·exact h.Hh o (k o z)
  rcases k o z with k | k
  ·exact h.Hh o k
  have:=(h.seg g FE).hi;have:=lw g;omega
 have be:b.ended=true->s.next=N+2:=by
  intro z
  rcases F with⟨-,-,k⟩ | ⟨g,rfl,-,-,k⟩
  ·exact h.Ez (k z)
  rcases k z with k | k
  ·exact h.Ez k
  have j:=h.seg g FE;have G:=j.hi
  have I:fY s.cf.kc g+g.s.length=N+1:=by
   rcases j.n with⟨-,f⟩ | ⟨-,f⟩
   ·exact f k
   rw[f]at k;cases k
  have:mR g=1:=by unfold mR;rw[L7 k]
  omega
 have M:b.expected+1<=s.next:=by
  have B:=h.Ds;unfold Cn.expected;split
  ·rename_i m;unfold Cn.reached at m
   simp at m
   have:=be m.1;have:=hf m.1;omega
  by_cases P:0<b.bx.nx
  ·have:=K _ (hx P);omega
  omega
 have S:∀g∈l,l≠[]->iL s.cf.kc g=b.expected+1/\(b.reached=false->iL s.cf.kc g+g.win=b.ann+1):=by
  intro g d p
  rcases t.k with⟨k,-⟩ | ⟨-,-,-,k⟩
  ·exact absurd k p
  have c:=k g d
  have e:iL s.cf.kc g=b.expected+1:=by
   unfold iL;rw[c.ak];unfold Cn.number;rw[t.tq,h.tq];exact pp _ O O
  refine⟨e,fun m=> ?_⟩;rw[e,c.win];have:b.expected=b.bx.nx:=by unfold Cn.expected;rw[L5 (by rw[m];decide)]
  omega
 have w:∀g∈l,iL s.cf.kc g=b.expected+1/\(b.reached=false->iL s.cf.kc g+g.win=b.ann+1):=fun g d=>S g d (fun e=>by rw[e]at d;cases d);have hu:=h.fM;refine⟨t.tq.trans h.tq,fun g d=>h.seg g (by simp[d]),?_,?_,O,M,fun m=>by have:=h.lim (u m);omega,?_,?_,?_,K,be⟩
 ·intro g d
  rcases LE.1 d with d | d
  ·obtain⟨C,E,J⟩:=h.ack g d;exact⟨C,O,fun m=>by have:=J (u m);omega⟩
  obtain⟨C,E⟩:=w g d;exact⟨O,O,fun m=>by have:=E m;omega⟩
 ·refine NQ.2 ⟨h.Hg,?_,fun x hx y hy=> ?_⟩
  ·exact List.pairwise_of_forall_mem_list fun x hx y hy=>by rw[(w x hx).1,(w y hy).1];exact L9 _
  have:=(h.ack x hx).2.1;have:=(w y hy).1;omega
 ·intro o C E J
  rcases h.safe o C E J with k | ⟨g,d,G,I,T⟩
  ·exact .inl (t.has _ k)
  rcases LE.1 d with d | d
  ·rcases F with⟨rfl,-⟩ | ⟨x,rfl,e,-⟩
   ·cases d
   rw[Lu.1 d]at G I T;exact .inl (e O _ O O)
  exact .inr ⟨g,d,G,I,O⟩
 ·by_cases p:l=[]
  ·rcases t.k with⟨-,-,⟨B,-,U⟩ | ⟨B,-⟩⟩ | ⟨k,-⟩
   ·rw[U,B,p,LM];exact h.told
   ·exact .inr (.inl B)
   exact absurd p k
  obtain⟨g,d⟩:=Nu l p;exact .inr (.inr ⟨g,by simp[d],(w g d).1⟩)
 intro m;by_cases p:l=[]
 ·rcases t.k with⟨-,e,-⟩ | ⟨k,-⟩
  ·rw[e,p,LM];exact h.EX (u m)
  exact absurd p k
 obtain⟨g,d⟩:=Nu l p;exact .inr ⟨g,by simp[d],(w g d).2 m⟩
theorem zV (c:Cn):0<c.bx.nx->c.bx.has (c.bx.nx-1):=fun _=>.inl O
theorem nO {c:Cn}(ok:c.Ok):0<=c.expected/\c.bx.nx<=c.expected:=by
 have:=ok.bx.Do;have:=ok.bx.xK;unfold Cn.expected;split <;> omega
theorem kP {c d:Cn}{N:Int}(h:Hv c N)(a:Hv d N)(he:c.expected<=d.expected):d.reached=false->c.reached=false:=by
 intro b
 cases hc:c.reached with
 | false=>rfl
 | true =>
  have e:d.expected=d.bx.nx:=by unfold Cn.expected;rw[L5 (by rw[b];decide)]
  have f:c.expected=c.bx.nx+1:=by unfold Cn.expected;rw[L7 hc]
  unfold Cn.reached at hc;rw[Ly,Lh]at hc;have:=h.fe hc.1;have:=a.nx;omega
def CQ (i M:Int)(l:List Sg):Prop:=∀x∈l,1<=fY i x/\((fY i x+x.s.length<=M+1/\(x.fin=true->fY i x+x.s.length=M+1))\/(x.s=[]/\x.fin=false))
theorem zW {c e:Cn}{g:Sg}{a A:List Sg}{q q' N M:Int}(hi:DI e c (g::a) A q N)(ho:DI c e A (g::a) q' M)(nm:g.qa=false/\g.syn=false/\g.has=true)(pt:g.fp=c.cf.tp/\g.tp=c.cf.fp)(l:1<=c.fM)(he:e.next<=N+2)(m:N<=99000) :
  HJ c g (fY e.cf.kc g-1) (iL c.cf.kc g)/\c.fM<=iL c.cf.kc g/\1<=iL c.cf.kc g/\iL c.cf.kc g<=c.next/\0<=fY e.cf.kc g-1/\fY e.cf.kc g-1<=100000/\((fY e.cf.kc g-1+g.s.length<=N/\(g.fin=true->fY e.cf.kc g-1+g.s.length=N))\/(g.s=[]/\g.fin=false)):=by
 have d:=hi.seg g FE;have h:=ho.ack g FE;have d1:=d.lo;have d2:=d.n;have d3:=d.hi;have d4:=lw g;have i:=h.1;have p:=h.2.1;have r:=ho.Ds;have j:fY e.cf.kc g<=99002:=O
 have b:c.offset g.sq=fY e.cf.kc g-1:=by
  unfold Cn.offset;rw[hi.tq,d.sq];generalize fY e.cf.kc g=o at d1 j;unfold aE aw;omega
 refine⟨⟨nm.1,nm.2.1,nm.2.2,pt,b,Z⟩,i,O,O,O,O,?_⟩
 rcases d2 with⟨t,f2⟩ | f
 ·exact .inl ⟨O,fun k=>by have:=f2 k;omega⟩
 exact .inr f
theorem BF {c e:Cn}{g:Sg}{a A:List Sg}{q q' N M now:Int}(hi:DI e c (g::a) A q N)(ho:DI c e A (g::a) q' M)(h:Hv c N)(j:aI now)(hs:g.Ok)(nm:g.qa=false/\g.syn=false/\g.has=true)(pt:g.fp=c.cf.tp/\g.tp=c.cf.fp)(l:3<=c.st)(n:1<=c.fM)(he:e.next<=N+2)(f:N<=99000)(o:M<=99000)(i:Hv (c.receive now g).1 N)(hl:(c.receive now g).1.next<=(c.receive now g).1.last\/(c.receive now g).1.last=M+1)(b:(c.receive now g).1.next<=M+2)(d:CQ c.cf.kc M (c.receive now g).2) :
  (c.st=8/\c.last<iL c.cf.kc g/\(c.receive now g).1.st=0/\(c.receive now g).1.reached=true) \/
  (Rc c (c.receive now g).1 (c.receive now g).2 now g (fY e.cf.kc g-1) (iL c.cf.kc g) N/\DI e (c.receive now g).1 a (A++(c.receive now g).2) q N/\DI (c.receive now g).1 e (A++(c.receive now g).2) a q' M):=by
 obtain⟨m,p,r,s,t,u,w⟩:=zW hi ho nm pt n he f
 rcases nN h j hs m l p r s t u w with k | k
 ·exact .inl k
 refine .inr ⟨k,?_,?_⟩
 ·exact DI.If (D0:=[g]) hi k.rv (.inr ⟨g,Z,k.has,k.GL,k.GM⟩) (kP h i k.rv.exp) (zV _) i.fe (nO h.ok).1 he f
 exact DI.FB (A0:=[g]) ho k.sv (.inr ⟨g,Z,k.fM,k.lim⟩) b hl d O o
theorem Op.di {K:Prop}{c d e:Cn}{a A l:List Sg}{q q' N M now:Int}(hi:DI e c a A q N)(ho:DI c e A a q' M)(op:Op K c d l now)(h:Hv c N)(k:0<=c.fM)(he:e.next<=N+2)(m:N<=99000)(n:M<=99000)(j:Hv d N)(hl:d.next<=d.last\/d.last=M+1)(b:d.next<=M+2)(f:d.ended=true->c.ended=true)(g:CQ c.cf.kc M l) :
  DI e d a (A++l) q N/\DI d e (A++l) a q' M :=
 ⟨DI.If (D0:=[]) hi op.rv (.inl ⟨Z,fun i hi=>(op.has i).1 hi,f⟩) (kP h j op.rv.exp) (zV _) j.fe (nO h.ok).1 he m,DI.FB (A0:=[]) ho op.sv (.inl ⟨Z,op.fM,op.lim⟩) b hl g k n⟩
def jb (d:Bool)(W:List Fl):List Sg:=(W.filter fun f=>f.dst==d).map (·.s)
theorem ua (d:Bool)(V W:List Fl):jb d (V++W)=jb d V++jb d W:=by unfold jb;rw[Mq,LN]
theorem kQ (f:Fl)(W:List Fl):jb f.dst (f::W)=f.s::jb f.dst W/\jb (!f.dst) (f::W)=jb (!f.dst) W:=by
 unfold jb
 constructor
 ·rw[MQ FE];rfl
 rw[MR (by cases f.dst <;> simp)]
theorem CC (p:Pr)(i:Bool)(l:List Sg):jb (!i) (l.map (p.fl i))=l/\jb i (l.map (p.fl i))=[]:=by
 induction l with
 | nil=>exact⟨Z,Z⟩
 | cons s l a =>
  have e:=kQ (p.fl i s) (l.map (p.fl i));have b:(p.fl i s).dst= !i:=Z;rw[b,LF]at e;rw[M6];exact⟨by rw[e.1,a.1];rfl,by rw[e.2,a.2]⟩
theorem rV (i:Bool):∀(l:List Sg) (p:Pr),p.kq.length<=p.many->(p.put i l).wire=p.wire++l.map (p.fl i)/\(p.put i l).kq.length<=(p.put i l).many:=by
 intro l
 induction l with
 | nil=>intro p h;exact⟨by show p.wire=_;simp,h⟩
 | cons s l a =>
  intro p h;have e:p.put i (s::l)=(p.tt i s).put i l:=Z
  have b:p.wB=0:=by
   unfold Pr.wB;rw[List.getElem?_eq_none_iff.2 h]
  have h1:(p.tt i s).kq.length<=(p.tt i s).many:=Nat.le_succ_of_le h;obtain⟨c,d⟩:=a (p.tt i s) h1;rw[e];refine⟨?_,d⟩;rw[c];show(p.wire++p.AA (p.fl i s))++l.map (p.fl i)=_;unfold Pr.AA;rw[L7 b,M6,LK];rfl
theorem eV {p:Pr}(h:∀f∈p.wire,f.held=false/\f.due<=p.now):p.due=p.wire/\p.rest=[]:=by
 have h1:Pr.Dm p.now p.wire=[]:=by
  unfold Pr.Dm;rw[List.filter_eq_nil_iff];intro f a;obtain⟨b,c⟩:=h f a;unfold Pr.tD;rw[b,Lc c]
  decide
 have h2:Pr.El p.now p.wire=p.wire:=by
  unfold Pr.El;rw[List.filter_eq_self];intro f a;obtain⟨b,c⟩:=h f a;unfold Pr.tD;rw[b,Lc c]
  decide
 unfold Pr.due Pr.rest;rw[h1,h2];exact⟨LM _,Z⟩
def DP (p:Pr)(Q:List Fl)(q N:Bool->Int):Prop:=∀i,DI (p.sd i).c (p.sd (!i)).c (jb (!i) (Q++p.wire)) (jb i (Q++p.wire)) (q i) (N i)
theorem DP.of {p p':Pr}{a:List Fl}{q N:Bool->Int}(i:Bool){b:Cn}{l:List Sg}(d:(p'.sd i).c=b)(e:(p'.sd (!i)).c=(p.sd (!i)).c)(f:p'.wire=p.wire++l.map (p.fl i))
  (k1:DI (p.sd (!i)).c b (jb i (a++p.wire)) (jb (!i) (a++p.wire)++l) (q (!i)) (N (!i)))
  (h:DI b (p.sd (!i)).c (jb (!i) (a++p.wire)++l) (jb i (a++p.wire)) (q i) (N i)):DP p' a q N:=by
 obtain⟨k,f2⟩:=CC p i l;have g1:jb (!i) (a++p'.wire)=jb (!i) (a++p.wire)++l:=by rw[f,<-LK,ua,k]
 have g:jb i (a++p'.wire)=jb i (a++p.wire):=by rw[f,<-LK,ua,f2,LM]
 intro j;by_cases m:j=i
 ·subst m;rw[d,e,g1,g];exact h
 have:j= !i:=by cases i <;> cases j <;> simp_all
 subst this;rw[LF,d,e,g1,g];exact k1
structure Ns (c:Cn)(now N M:Int):Prop where
 hv:Hv c N
 fM:1<=c.fM
 st:3<=c.st
 nx:c.next<=M+2
 nn:N<=99000/\M<=99000
 now:aI now
def rW (c:Cn)(g:Sg):Prop:=g.Ok/\(g.qa=false/\g.syn=false/\g.has=true)/\g.fp=c.cf.tp/\g.tp=c.cf.fp
theorem pr (p:Pr)(i:Bool)(c:Cn):((p.ro i c).sd i).c=c/\((p.ro i c).sd (!i))=p.sd (!i)/\(p.ro i c).wire=p.wire/\(p.ro i c).now=p.now/\(p.ro i c).kq=p.kq/\(p.ro i c).many=p.many:=by cases i <;> exact⟨Z,Z,Z,Z,Z,Z⟩
theorem af (p:Pr)(i j:Bool)(l:List Sg):(p.put i l).sd j=p.sd j:=by
 cases j
 ·exact(bs i l p).1
 exact(bs i l p).2.1
theorem kR {p:Pr}(i:Bool)(c:Cn)(l:List Sg)(h:p.kq.length<=p.many):((((p.ro i c).put i l).sd i).c=c/\((p.ro i c).put i l).sd (!i)=p.sd (!i)/\((p.ro i c).put i l).wire=p.wire++l.map (p.fl i))/\((p.ro i c).put i l).now=p.now/\((p.ro i c).put i l).kq.length<=((p.ro i c).put i l).many:=by
 obtain⟨d,e,f,b,g,j⟩:=pr p i c;obtain⟨k,m⟩:=rV i l (p.ro i c) (by rw[g,j];exact h);have a:(p.ro i c).fl i=p.fl i:=by funext s;unfold Pr.fl;rw[b]
 rw[af,af];exact⟨⟨d,e,by rw[k,f,a]⟩,(bs i l _).2.2.1.trans b,m⟩
theorem zX {p:Pr}{f:Fl}{Q:List Fl}{q N:Bool->Int}(h:DP p (f::Q) q N)(m:p.kq.length<=p.many)(n:∀i,Ns (p.sd i).c p.now (N (!i)) (N i))(b:rW (p.sd f.dst).c f.s)
  (o:Hv ((p.sd f.dst).c.receive p.now f.s).1 (N (!f.dst)))(hl:((p.sd f.dst).c.receive p.now f.s).1.next<=((p.sd f.dst).c.receive p.now f.s).1.last\/((p.sd f.dst).c.receive p.now f.s).1.last=N f.dst+1)(d:((p.sd f.dst).c.receive p.now f.s).1.next<=N f.dst+2)(e:CQ (p.sd f.dst).c.cf.kc (N f.dst) ((p.sd f.dst).c.receive p.now f.s).2) :
  ((p.sd f.dst).c.st=8/\((p.ke f).sd f.dst).c.st=0/\((p.ke f).sd f.dst).c.reached=true)\/(DP (p.ke f) Q q N/\Rc (p.sd f.dst).c ((p.sd f.dst).c.receive p.now f.s).1 ((p.sd f.dst).c.receive p.now f.s).2 p.now f.s (fY (p.sd (!f.dst)).c.cf.kc f.s-1) (iL (p.sd f.dst).c.cf.kc f.s) (N (!f.dst))):=by
 have a:=n f.dst;have j:=n (!f.dst);rw[LF]at j;obtain⟨r,t⟩:=kQ f (Q++p.wire);have hi:=h (!f.dst);have l:=h f.dst;rw[LF]at hi;rw[LQ,r,t]at hi l;obtain⟨⟨g,u,w⟩,-,-⟩:=kR f.dst ((p.sd f.dst).c.receive p.now f.s).1 ((p.sd f.dst).c.receive p.now f.s).2 m
 rcases BF hi l a.hv a.now b.1 b.2.1 b.2.2 a.st a.fM j.nx a.nn.1 a.nn.2 o hl d e with k | ⟨x,y,z⟩
 ·exact .inl ⟨k.1,(congrArg Cn.st g).trans k.2.2.1,(congrArg Cn.reached g).trans k.2.2.2⟩
 exact .inr ⟨DP.of (p:=p) f.dst g (congrArg Sd.c u) w y z,x⟩
theorem Hv.of {P:Pr.zc}{p:Pr}{a b:Int}(pv:Pr.PV P p)(d:Pr.Fit p a b)(i:Bool)(hs:Hs (p.sd i).c){N:Int}(h1:(p.sd (!i)).closed=true->((p.sd (!i)).str.length:Int)=N)(h2:((p.sd (!i)).str.length:Int)<=N):Hv (p.sd i).c N :=
 ⟨(
  d.sd i).c,(pv.s i).1.bu,(pv.s i).1.nl,fun g=>by
  obtain⟨e,f⟩:=(pv.r i).1.en g;rw[f];exact h1 e,fun j h=>by have:=(pv.r i).1.pi.has j h;omega,hs.ov,hs.vo,hs.st,hs.ts,O⟩
structure Fb (p:Pr)(N:Bool->Int):Prop where
 cl:∀j,(p.sd j).closed=true->((p.sd j).str.length:Int)=N j
 le:∀j,((p.sd j).str.length:Int)<=N j
 sm:∀j,N j<=99000
theorem Ns.of {P:Pr.zc}{p:Pr}{a b:Int}(pv:Pr.PV P p)(d:Pr.Fit p a b){N:Bool->Int}(f:Fb p N)(i:Bool)(hs:Hs (p.sd i).c)(e:3<=(p.sd i).c.st):Ns (p.sd i).c p.now (N (!i)) (N i)/\((p.sd i).c.next<=(p.sd i).c.last\/(p.sd i).c.last=N i+1):=by
 obtain⟨k,u⟩:=pv.s i;have h1:(p.sd i).c.last=1+(p.sd i).str.length:=k.last;have h2:=k.nl;have j:=f.le i;have h:(p.sd i).c.shut=true->(p.sd i).c.last=N i+1:=fun g=>by have:=f.cl i (k.sh g);omega
 refine⟨⟨Hv.of pv d i hs (f.cl _) (f.le _),u e,e,?_,⟨f.sm _,f.sm _⟩,d.zu⟩,?_⟩
 ·split at h2 <;> omega
 cases hq:(p.sd i).c.shut with
 | true=>exact .inr (h hq)
 | false =>
  rw[hq]at h2
  simp at h2
  exact .inl h2
theorem tS {k:Kx}{g:Sg}(h:GS k g)(hr:g.qa=false)(hy:g.syn=false)(hS:k.S.length<=1000){M:Int}(h1:k.cl=true->(k.S.length:Int)=M)(h2:(k.S.length:Int)<=M) :
  1<=fY k.kc g/\((fY k.kc g+g.s.length<=M+1/\(g.fin=true->fY k.kc g+g.s.length=M+1))\/(g.s=[]/\g.fin=false)):=by
 obtain⟨off,b,j,-,c,d,e⟩:=h.dat hr;have f:fY k.kc g=off:=by unfold fY;rw[b];exact pp _ O O
 have:=c hy;rw[f];refine⟨O,?_⟩;by_cases a:g.fin=true
 ·obtain⟨i,l⟩:=e a;have:=h1 i;exact .inl ⟨O,fun _=>by omega⟩
 by_cases hs:g.s=[]
 ·exact .inr ⟨hs,Ja⟩
 have:=(d hs).2;exact .inl ⟨O,fun g=>absurd g a⟩
def kT (f:Cf)(l:List Sg):Prop:=∀s∈l,s.fp=f.fp/\s.tp=f.tp
theorem kT.nil (f:Cf):kT f []:=fun s hs=>by cases hs
theorem kT.app {f:Cf}{l m:List Sg}(h:kT f l)(k:kT f m):kT f (l++m):=fun s hs=>(LE.1 hs).elim (h s) (k s)
theorem nP (c:Cn)(g:Sg)(off:Int):kT c.cf [c.qE g off]:=by
 intro s hs;rw[Lu.1 hs];unfold Cn.qE;split <;> exact⟨Z,Z⟩
theorem ja (c:Cn)(n:Int):kT c.cf [c.kl n]:=nP c { dH with s:=c.data c.next (c.kn n),fin:=c.shut&&decide (c.last<c.kn n) } c.next
theorem wh {f:Cf}(n:Nat):∀(c:Cn) (l:List Sg),c.cf=f->kT f l->kT f (n7 n c l).2/\(n7 n c l).1.cf=f:=by
 induction n with
 | zero=>intro c l e h;exact⟨h,e⟩
 | succ n a =>
  intro c l e h;unfold n7;split
  ·cases hl:c.sc.lost c.gi with
   | nil=>exact⟨h,e⟩
   | cons x t =>
    dsimp only;split
    ·exact a { c.qn with sc:=c.sc.ret (aK c.gi x),tm:=c.tm.og } (l++[c.kZ x.1 (aK c.gi x).2]) e (h.app (e ▸ nP c _ _))
    exact⟨h,e⟩
  exact⟨h,e⟩
theorem wi {f:Cf}(now:Int)(n:Nat):∀(c:Cn) (l:List Sg),c.cf=f->kT f l->kT f (kr now n c l).2/\(kr now n c l).1.cf=f:=by
 induction n with
 | zero=>intro c l e h;exact⟨h,e⟩
 | succ n a =>
  intro c l e h;unfold kr;split
  ·exact a (c.out now c.allowed) (l++[c.kl c.allowed]) e (h.app (e ▸ ja c _))
  exact⟨h,e⟩
theorem dr (c:Cn)(now:Int):kT c.cf (c.push now).2:=by
 unfold Cn.push;split
 ·exact .nil _
 dsimp only
 have k:kT c.cf (if ae c.st=true then c.o6 now else(c,[])).2/\(if ae c.st=true then c.o6 now else(c,[])).1.cf=c.cf:=by
  split
  ·unfold Cn.o6;dsimp only;obtain⟨d,e⟩:=wh (c.flight.toNat+1) c [] Z (.nil c.cf);generalize n7 (c.flight.toNat+1) c []=r at d e|-;obtain⟨b,a⟩:=wi now (r.1.iq.toNat+1) r.1 r.2 e d;generalize kr now (r.1.iq.toNat+1) r.1 r.2=q at b a|-;unfold ug;split
   ·exact⟨b.app (a ▸ ja q.1 _),a⟩
   exact⟨b,a⟩
  exact⟨.nil _,Z⟩
 generalize (if ae c.st=true then c.o6 now else(c,[]))=r at k|-;unfold Cn.qD;split
 ·exact k.1.app (k.2 ▸ nP r.1 _ _)
 exact k.1
theorem rX {c:Cn}{N:Int}(h:Hv c N){now:Int}(r:aI now){s:Sg}(hs:s.Ok){off a:Int}(m:HJ c s off a)(n:3<=c.st)(ha:c.fM<=a)(h1:1<=a)(h2:a<=c.next)(h0:0<=off)(ho:off<=100000)(j:(off+s.s.length<=N/\(s.fin=true->off+s.s.length=N))\/(s.s=[]/\s.fin=false)):kT c.cf (c.receive now s).2:=by
 have ok:=h.ok;have l:=ok.st
 have i:c.receive now s=if c.accepts off (aj s)=false then c.stray now s else c.process now s off:=by
  unfold Cn.receive;rw[L5 O,L5 L0,L5 O];unfold Cn.ys;dsimp only;rw[m.off,L5 (fun g=>by rw[m.qa]at g;cases g.1),L5 (fun g=>by rw[m.qa]at g;cases g.1)]
  rw[show(if s.qa=true\/s.syn=true then c.gB.push now else if s.has=false then(c,[])else c.process now s off)=c.process now s off from by
   rw[L5 (fun g=>by rw[m.qa,m.syn]at g;rcases g with g | g <;> cases g),L5 (by rw[m.has];decide)]]
 rw[i];have f:∀e:Cn,e.cf=c.cf->kT c.cf (e.push now).2:=fun e he=>he ▸ dr e now;split
 ·have k:=kt (c:=c) now s ha O h2;unfold Cn.stray;dsimp only;rw[m.ack,show(if bU c.st=true/\s.has=true/\s.syn=false/\c.fM<=a/\a<=c.next then c.go now s a else c)=c.go now s a from L7 ⟨Lc ⟨n,l.2⟩,m.has,m.syn,ha,h2⟩];generalize c.go now s a=d at k|-
  have u:∀b:Cn,b.cf=c.cf->kT c.cf ((if 0<aj s then b.gB else b).push now).2:=fun b p=>by
   split
   ·exact f _ p
   exact f _ p
  refine u _ ?_;split <;> exact k.cf
 have w:∃o:Int,0<=o/\o<=100000/\o+s.s.length<=N/\(s.fin=true->o+s.s.length=N)/\((c.go now s a).store now s off).qb now s off=((c.go now s a).store now s o).qb now s o:=by
  rcases j with⟨x,y⟩ | ⟨p1,q⟩
  ·exact⟨off,h0,ho,x,y,Z⟩
  refine⟨0,O,O,by rw[p1];simpa using h.n0,(fun g=>by rw[q]at g;cases g),?_⟩;unfold Cn.qb Cn.store;rw[p1,q]
  simp
 obtain⟨o,z,A,B,C,E⟩:=w;have t:=uY h r hs n ha h1 h2 z A B C
 have F:c.process now s off=(((c.go now s a).store now s off).qb now s off).push now:=by
  unfold Cn.process;dsimp only;rw[m.ack,L5 O,L5 O]
 rw[F,E];exact f _ t.pre.cf
theorem tU (c:Cn)(now:Int)(x:List UInt8):(c.send now x).1.ended=c.ended:=by
 unfold Cn.send;split
 ·rfl
 exact(bA _ now).ended
theorem rY (c:Cn)(now:Int)(h2:2<=c.st):(c.close now).1.ended=c.ended:=by
 unfold Cn.close;split
 ·rfl
 dsimp only;rw[L5 O];split
 ·exact(bA _ now).ended
 exact(bA _ now).ended.trans (jk { c with shut:=true } now 5).fx.ended
theorem tV (c:Cn)(now n:Int):(c.recv now n).1.ended=c.ended:=by
 unfold Cn.recv;split
 ·rfl
 dsimp only;split
 ·rfl
 split
 ·rfl
 exact(bA _ now).ended
theorem jD (c:Cn)(now:Int)(l:List Sg):(c.oi now l).1.ended=c.ended:=by
 unfold Cn.oi;dsimp only;refine((bA _ now).ended).trans ?_;split <;> rfl
theorem pu (c:Cn):c.expire.1.ended=c.ended:=by
 unfold Cn.expire;split
 ·rfl
 split <;> rfl
theorem tW (c:Cn)(now:Int):(c.tick now).1.ended=c.ended:=by
 unfold Cn.tick;split
 ·rfl
 split
 ·exact(cR c now 9 0).ended
 split
 ·dsimp only;split
  ·exact(cR _ now 9 182).ended
  split
  ·exact(jD _ now _).trans (pu _)
  unfold Cn.v6;split <;> rfl
 exact jD c now []
theorem zY (c:Cn)(now:Int)(x:List UInt8):kT c.cf (c.send now x).2:=by
 unfold Cn.send;split
 ·exact .nil _
 exact dr _ now
theorem wj (c:Cn)(now:Int)(h2:2<=c.st):kT c.cf (c.close now).2:=by
 have e:(Cn.step { c with shut:=true } now 5).cf=c.cf:=(jl { c with shut:=true } now 5).cf;have k:kT (Cn.step { c with shut:=true } now 5).cf ((Cn.step { c with shut:=true } now 5).push now).2:=dr _ now;rw[e]at k;have a:kT c.cf (Cn.push { c with shut:=true } now).2:=dr { c with shut:=true } now;unfold Cn.close;split
 ·exact .nil _
 dsimp only;rw[L5 O];split
 ·exact a
 exact k
theorem zZ (c:Cn)(now n:Int):kT c.cf (c.recv now n).2:=by
 unfold Cn.recv;split
 ·exact .nil _
 dsimp only;split
 ·exact .nil _
 split
 ·exact .nil _
 exact dr _ now
theorem ld {c:Cn}{f:Cf}(now:Int){l:List Sg}(e:c.cf=f)(h:kT f l):kT f (c.oi now l).2:=by
 unfold Cn.oi;dsimp only;refine h.app ?_;rw[<-e];split
 ·exact dr c.gB now
 exact dr c now
theorem tX (c:Cn):kT c.cf c.expire.2/\c.expire.1.cf=c.cf:=by
 unfold Cn.expire;split
 ·exact⟨.nil _,Z⟩
 split
 ·exact⟨.nil _,Z⟩
 exact⟨ja c _,Z⟩
theorem za (c:Cn)(now:Int)(a:3<=c.st)(b:c.st<=9):kT c.cf (c.tick now).2:=by
 unfold Cn.tick;rw[L5 O];split
 ·exact .nil _
 split
 ·dsimp only;split
  ·exact .nil _
  have an:bU c.st=true:=Lc ⟨a,b⟩;rw[L7 an];obtain⟨k,e⟩:=tX { c with tries:=c.tries+1,tm:=c.tm.og.ka,dl:=.wA now c.tm.og.ka.value };exact ld now e k
 exact ld now Z (.nil _)
section
open Go.RowKit Go.Shelf
structure Mn (c d:Cn):Prop where
 fM:c.fM<=d.fM
 nx:c.next<=d.next
 lim:c.limit<=d.limit
 last:c.last<=d.last
 ann:c.ann<=d.ann
 exp:c.expected<=d.expected
 AC:c.largest<=d.largest
 has:∀i,c.bx.has i->d.bx.has i
 inc:40<=c.largest->d.next=c.next\/c.next+min 20 (c.last-c.next)<=d.next
 sh:c.shut=true->d.shut=true
 cf:d.cf=c.cf
theorem Mn.refl (c:Cn):Mn c c:=⟨L9 _,L9 _,L9 _,L9 _,L9 _,L9 _,L9 _,fun _ h=>h,fun _=>.inl Z,id,Z⟩
theorem Mn.trans {c d e:Cn}(h:Mn c d)(k:Mn d e):Mn c e:=by
 have h1:=h.nx;have h2:=k.nx;have f:=h.last;have j:=h.AC;refine⟨Lz h.fM k.fM,Lz h1 h2,Lz h.lim k.lim,Lz f k.last,Lz h.ann k.ann,Lz h.exp k.exp,Lz j k.AC,fun i g=>k.has i (h.has i g),fun g=> ?_,fun g=>k.sh (h.sh g),k.cf.trans h.cf⟩;have a:=h.inc g;have b:=k.inc O;omega
theorem Mn.of {K:Prop}{c d:Cn}{l:List Sg}{now:Int}(a:SV c d l)(b:RV c d l now)(f:XV K c d now):Mn c d:=by
 refine⟨a.fM,a.nx,a.lim,a.last,?_,b.exp,f.ex.AC,b.has,f.inc,f.ex.sh,a.cf⟩
 rcases b.k with⟨-,e,-⟩ | ⟨-,-,e,-⟩
 ·omega
 exact e
structure Sx (c:Cn)(R now:Int):Prop where
 ci:Ci c
 p2:c.pend≠2
 al:c.pend=1->c.pd.set=true/\c.pd.ticks=2/\c.pd.since<=now
 ds:0<c.flight->c.dl.set=true
 ni:NI c now
 HW:40<=c.largest
 lR:c.largest<=R
theorem Sx.step {K:Prop}{c d:Cn}{l:List Sg}{R now:Int}(h:Sx c R now)(b:RV c d l now)(a:XV K c d now)(hl:d.largest<=R):Sx d R now:=by
 refine⟨a.ex.ci h.ci,b.p2,fun g=> ?_,a.set h.ds,a.ex.ni h.ni,Lz h.HW a.ex.AC,hl⟩
 rcases b.k with⟨-,-,⟨f,i,-⟩ | ⟨-,-,e⟩⟩ | ⟨-,e,-⟩
 ·rw[i];exact h.al (f.symm.trans g)
 ·rw[e];exact⟨Z,Z,L9 _⟩
 omega
theorem Sx.I0 {c:Cn}{R now:Int}(h:Sx c R now):Sx c R (now+1) :=
 ⟨h.ci,h.p2,fun g=>by have:=h.al g;exact⟨this.1,this.2.1,O⟩,h.ds,⟨h.ni.t0,h.ni.bk,by have:=h.ni.cw;omega,fun g=>by have:=h.ni.dl g;exact⟨this.1,this.2.1,O,this.2.2.2⟩⟩,h.HW,h.lR⟩
theorem Sx.tries {c:Cn}{R now:Int}(h:Sx c R now)(a:now<1692):c.tries<=11:=by
 have h1:=h.ni.cw;have h0:=h.ni.t0
 rcases Mx c.tries 12 with g | g
 ·omega
 unfold BC at h1;rw[L5 O,L5 O,L5 O,L5 O,L5 O,L5 O]at h1;omega
theorem wl {c:Cn}(ok:c.Ok){now:Int}(n:aI now)(o:3<=c.st)(s:c.tries<=11):(c.tick now).1.st=0\/∃y:Cn,y.Ok/\y.st≠0/\(c.tick now).1=(y.push now).1/\((c.pend≠1\/c.pd.due now=true)->y.pend≠1):=by
 have f:=ok.st
 have b:∀(x:Cn) (l:List Sg),x.Ok->x.st≠0->(x.pend=0\/(x.pend=c.pend/\x.pd=c.pd))->∃y:Cn,y.Ok/\y.st≠0/\(x.oi now l).1=(y.push now).1/\((c.pend≠1\/c.pd.due now=true)->y.pend≠1):=fun x l i h0 d=>by
  unfold Cn.oi;dsimp only;split
  ·exact⟨x.gB,i.gB,h0,Z,fun _=>by show(2:Int)≠1;decide⟩
  rename_i g;refine⟨x,i,h0,Z,fun q e=> ?_⟩
  rcases d with d | ⟨d,p⟩
  ·omega
  rcases q with q | q
  ·exact q (d ▸ e)
  exact g ⟨e,by rw[p];exact q⟩
 unfold Cn.tick;rw[L5 O];split
 ·exact .inl (dB c now _ (.inr Z))
 refine .inr ?_;split
 ·dsimp only;rw[L5 O];have an:bU c.st=true:=Lc ⟨o,f.2⟩;rw[L7 an];have h:Cn.Ok { c with tries:=c.tries+1,tm:=c.tm.og.ka,dl:=.wA now c.tm.og.ka.value }:=ok.back n (O:¬12<c.tries+1);have a:=h.expire;generalize he:({ c with tries:=c.tries+1,tm:=c.tm.og.ka,dl:=.wA now c.tm.og.ka.value }:Cn)=e at h a;have j:e.st=c.st/\e.pend=c.pend/\e.pd=c.pd:=by rw[<-he];exact⟨Z,Z,Z⟩
  obtain⟨j,k,m⟩:=j;unfold Cn.expire at a|-;split
  ·rename_i g;rw[L7 g]at a;exact b { e with cg:=e.cg.timeout e.flight,sc:=e.sc.timeout,mark:=e.next } _ a (by show e.st≠0;omega) (.inr ⟨k,m⟩)
  rename_i g;rw[L5 g]at a;split
  ·exact b e _ h O (.inr ⟨k,m⟩)
  rename_i r;rw[L5 r]at a;exact b (e.nY (max 1 (min (min e.gi (e.limit-e.next)) e.iq))) _ a (by show e.st≠0;omega) (.inl Z)
 exact b c _ ok O (.inr ⟨Z,Z⟩)
theorem wn {y:Cn}(ok:y.Ok){now:Int}(a:aI now)(h0:y.st≠0)(b:y.pend≠1):(y.push now).1.pend≠1:=by
 obtain⟨k,-⟩:=gL ok a h0
 rcases k.k with⟨-,-,e,-⟩ | ⟨-,e,-⟩
 ·rw[e];exact b
 omega
theorem pw {s:Sc}(ok:s.Ok){m:Int}(hm:1<=m)(h:s.fM<s.next):s.timeout.lost m=[(s.fM,s.next)]/\s.timeout.pipe m=0:=by
 have g:=ok.u0;have e:=ok.n40;have a:iP s.fM []=[]:=Z;have b:one s.fM s.next=[(s.fM,s.next)]:=by unfold one;rw[L7 h]
 have f:cW [] (s.fM,s.next)=true:=by unfold cW ao;simp[aJ];omega
 have c:s.timeout.gaps=[(s.fM,s.next)]:=by
  show bt [] (s.fM,s.next)=_;unfold bt;rw[L7 f];exact b
 have d:s.timeout.mm m (s.fM,s.next)=(s.fM,s.next):=by
  unfold Sc.mm;show(if aD (iP s.fM [])/3<m/\(iP s.fM []).length<3 then(s.fM,max s.fM (min s.next s.next))else(s.fM,s.next))=_;rw[a,L7 ⟨by show(0:Int)/3<m;omega,D⟩]
  congr 1
  omega
 constructor
 ·unfold Sc.lost;rw[L5 O,c,M6,d,Mp,show bD [(s.fM,s.next)]=[(s.fM,s.next)]from by simp[bD,h]];show bO s.next s.fM []++[]=_;rw[LM];exact b
 unfold Sc.pipe;rw[L5 O,c];show 0+iw s.timeout m [(s.fM,s.next)]=0;unfold iw;rw[d];show 0+(s.next-s.fM-(s.next-s.fM)+0)=0;omega
theorem ws (n:Nat):∀(c:Cn) (l:List Sg),∀x∈l,x∈(n7 n c l).2:=by
 induction n with
 | zero=>intro c l x h;exact h
 | succ n a =>
  intro c l x h;unfold n7;split
  ·split
   ·exact h
   split
   ·exact a _ _ x (LO _ h)
   exact h
  exact h
theorem wt (now:Int)(n:Nat):∀(c:Cn) (l:List Sg),∀x∈l,x∈(kr now n c l).2:=by
 induction n with
 | zero=>intro c l x h;exact h
 | succ n a =>
  intro c l x h;unfold kr;split
  ·exact a _ _ x (LO _ h)
  exact h
theorem tY {c:Cn}(ok:c.Ok){now:Int}(hs:ae c.st=true){x:Sp}{t:List Sp}(hl:c.sc.lost c.gi=x::t)(d:c.sc.pipe c.gi<c.cg.win):c.kZ x.1 (aK c.gi x).2∈(c.push now).2:=by
 have h0:c.st≠0:=Km
 have k:c.kZ x.1 (aK c.gi x).2∈(n7 (c.flight.toNat+1) c []).2:=by
  rw[jZ ok d hl];exact ws _ _ _ _ FE
 unfold Cn.push;rw[L5 h0];dsimp only;rw[L7 hs];unfold Cn.qD Cn.o6;dsimp only;have e:=wt now ((n7 (c.flight.toNat+1) c []).1.iq.toNat+1) (n7 (c.flight.toNat+1) c []).1 _ _ k
 have f:∀a:Cn×List Sg,c.kZ x.1 (aK c.gi x).2∈a.2->c.kZ x.1 (aK c.gi x).2∈(ug now a.1 a.2).2:=fun a h=>by
  unfold ug;split
  ·exact LO _ h
  exact h
 have b:=f (kr now ((n7 (c.flight.toNat+1) c []).1.iq.toNat+1) (n7 (c.flight.toNat+1) c []).1 (n7 (c.flight.toNat+1) c []).2) e;split
 ·exact LO _ b
 exact b
theorem tZ {c:Cn}(ok:c.Ok){now:Int}(u:aI now)(hs:ae c.st=true)(F:c.tries<=11)(hd:c.dl.due now=true)(hf:0<c.flight):∃d:Cn,d.data=c.data/\d.shut=c.shut/\d.last=c.last/\d.cf=c.cf/\d.kZ c.fM (min c.next (c.fM+c.gi))∈(c.tick now).2:=by
 have w:=ok.st;have a:=hs;unfold ae at a;rw[Lh]at a;have x:c.fM<c.next:=by have h1:c.flight=c.next-c.fM:=Z;omega
 have G:=ok.gi;unfold Cn.tick;rw[L5 O,L5 O,L7 hd];dsimp only;rw[L5 O,L7 (show bU c.st=true from Lc O)];have j:Cn.Ok { c with tries:=c.tries+1,tm:=c.tm.og.ka,dl:=.wA now c.tm.og.ka.value }:=ok.back u (O:¬12<c.tries+1);obtain⟨e,he⟩:∃e:Cn,e={ c with tries:=c.tries+1,tm:=c.tm.og.ka,dl:=.wA now c.tm.og.ka.value }:=⟨_,Z⟩;rw[<-he]at j|-;have f:e.flight=c.flight/\e.sc=c.sc/\e.gi=c.gi/\e.st=c.st/\e.held=c.held/\e.base=c.base/\e.shut=c.shut/\e.cf=c.cf:=by rw[he];exact⟨Z,Z,Z,Z,Z,Z,Z,Z⟩
 obtain⟨y,l,f2,f3,n,o,f6,p⟩:=f;have b:=j.expire;unfold Cn.expire at b|-;rw[L7 (by rw[y];exact hf)]at b|-;unfold Cn.oi;dsimp only at b|-;rw[LD]
 have g:∀d:Cn,d.Ok->d.sc=c.sc.timeout->d.gi=c.gi->d.st=c.st->d.held=c.held->d.base=c.base->d.shut=c.shut->d.cf=c.cf->∃h:Cn,h.data=c.data/\h.shut=c.shut/\h.last=c.last/\h.cf=c.cf/\h.kZ c.fM (min c.next (c.fM+c.gi))∈(Cn.push d now).2:=fun d q r i z s t A B=>by
  obtain⟨C,E⟩:=pw ok.sc (m:=c.gi) O x;have hw:=q.cg.2.2.1;have k:=tY q (now:=now) (by rw[z];exact hs) (by rw[r,i];exact C) (by rw[r,i,E];omega);refine⟨d,by unfold Cn.data;rw[s,t],A,by unfold Cn.last;rw[s,t],B,?_⟩;rw[i]at k;exact k
 split
 ·exact g _ b.gB (congrArg Sc.timeout l) f2 f3 n o f6 p
 exact g _ b (congrArg Sc.timeout l) f2 f3 n o f6 p
def En (c d:Cn):Prop:=(c.ended=true->d.ended=true)/\c.bx.nx<=d.bx.nx
theorem En.fx {c d:Cn}(f:Fx c d):En c d:=⟨fun g=>f.ended.trans g,by rw[f.bx];exact L9 _⟩
theorem En.trans {c d e:Cn}(h:En c d)(k:En d e):En c e:=⟨fun g=>k.1 (h.1 g),Lz h.2 k.2⟩
theorem zb {c:Cn}(ok:c.bx.Ok)(now:Int)(s:Sg){off:Int}(ho:off<=1099511627776):En c (c.store now s off):=by
 have k:c.bx.nx<=(c.uf off s.s).nx:=by
  unfold Cn.uf;split
  ·exact L9 _
  exact(Bx.Dd ok _ O O).2.2.2.1
 unfold Cn.store;split
 ·exact .fx (.refl c)
 split
 ·split
  ·unfold Cn.rl;split <;> exact⟨id,k⟩
  exact⟨id,k⟩
 exact⟨id,L9 _⟩
theorem BG (c:Cn)(now:Int)(s:Sg)(off:Int):En c (c.qb now s off):=by
 unfold Cn.qb;dsimp only
 have a:∀d:Cn,En c d->En c (if d.reached=true/\d.over=false then({ d with over:=true }.step now 6).gB else d):=fun d h=>by
  split
  ·exact h.trans (En.trans (d:={ d with over:=true }) ⟨id,L9 _⟩ ((En.fx (cJ _ now 6)).trans ⟨id,L9 _⟩))
  exact h
 refine a _ ?_;split
 ·exact⟨fun _=>rfl,L9 _⟩
 exact .fx (.refl c)
theorem ta {c:Cn}(ok:c.Ok)(now:Int)(s:Sg):En c (c.receive now s).1:=by
 have b:∀d:Cn,En c d->En c (d.push now).1:=fun d h=>h.trans (.fx (bA d now));have f:c.offset s.sq<=1099511627776:=by unfold Cn.offset aE;omega
 unfold Cn.receive;split
 ·exact .fx (.refl c)
 split
 ·exact .fx (.refl c)
 split
 ·unfold Cn.xs;split
  ·split <;> exact .fx (.refl c)
  split
  ·exact .fx (cR c now 8 184)
  split
  ·exact .fx (.refl c)
  dsimp only;have k:En c { c.meet s with tries:=0 }:=⟨id,L9 _⟩;split
  ·exact k.trans ((En.fx (cJ _ now 2)).trans (.fx (pI _)))
  refine b _ (k.trans (En.trans (d:={ ({ c.meet s with tries:=0 }:Cn)with sc:=(c.meet s).sc.go 1 [],tm:=(c.meet s).tm.go now 1 }) ⟨id,L9 _⟩ ((En.fx (cJ _ now 3)).trans ⟨id,L9 _⟩)))
 unfold Cn.ys;dsimp only;split
 ·exact .fx (cR c now 8 181)
 split
 ·exact .fx (.refl c)
 split
 ·unfold Cn.stray;dsimp only
  have k:∀a:Cn,En c a->En c ((if 0<aj s then(if a.st=9/\s.fin=true then { a with per:=.wA now 60 }else a).gB else(if a.st=9/\s.fin=true then { a with per:=.wA now 60 }else a)).push now).1:=fun a h=>by
   refine b _ ?_;have h2:En c (if a.st=9/\s.fin=true then { a with per:=.wA now 60 }else a):=by split <;> exact h
   split <;> exact h2
  refine k _ ?_;split
  ·exact .fx (eP c now s _)
  exact .fx (.refl c)
 split
 ·exact b c.gB ⟨id,L9 _⟩
 split
 ·exact .fx (.refl c)
 unfold Cn.process;dsimp only
 have k:∀a:Cn,Fx c a->En c (((a.store now s (c.offset s.sq)).qb now s (c.offset s.sq)).push now).1:=fun a h=>by
  refine b _ (((En.fx h).trans (zb ?_ now s f)).trans (BG _ now s _));rw[h.bx];exact ok.bx
 split
 ·split
  ·exact .fx (.refl c)
  have e:=cJ c now 4;split
  ·exact k _ ((e.trans (cJ _ now 5)).trans (eP _ now s _))
  exact k _ (e.trans (eP _ now s _))
 split
 ·exact b c.gB ⟨id,L9 _⟩
 exact k _ (eP c now s _)
theorem RB.reached {S:List UInt8}{cl:Bool}{c d:Cn}{got a:List UInt8}(h:RB S cl c got)(b:RB S cl d a)(e:En c d)(hr:c.reached=true):d.reached=true:=by
 unfold Cn.reached at hr|-;rw[Ly,Lh]at hr|-;have h1:=e.1 hr.1;refine⟨h1,?_⟩;have h2:=(h.en hr.1).2;have f:=(b.en h1).2;have g:=b.pi.nx;have i:=e.2;omega
end
structure Cl (P:Pr.zc)(p:Pr)(Q:List Fl)(q N:Bool->Int)(a b:Int):Prop where
 pv:Pr.PV P p
 ft:Pr.Fit p a b
 dp:DP p Q q N
 f2:Fb p N
 calm:p.kq.length<=p.many
 st:∀i,3<=(p.sd i).c.st
 hs:∀i,Hs (p.sd i).c
 pl:∀f∈Q++p.wire,rW (p.sd f.dst).c f.s
 prt:∀i,(p.sd i).c.cf.fp=(p.sd (!i)).c.cf.tp
 qg:∀f∈Q,GS (Pr.kx P p (!f.dst)) f.s/\fj (Pr.kx P p f.dst) f.s
theorem Cl.ns {P:Pr.zc}{p:Pr}{Q:List Fl}{q N:Bool->Int}{a b:Int}(h:Cl P p Q q N a b)(i:Bool):Ns (p.sd i).c p.now (N (!i)) (N i)/\((p.sd i).c.next<=(p.sd i).c.last\/(p.sd i).c.last=N i+1):=Ns.of h.pv h.ft h.f2 i (h.hs i) (h.st i)
theorem mA (p:Pr)(f:Fl):((p.ke f).sd f.dst).c=((p.sd f.dst).c.receive p.now f.s).1/\(p.ke f).sd (!f.dst)=p.sd (!f.dst):=by
 obtain⟨a,b,-⟩:=pr p f.dst ((p.sd f.dst).c.receive p.now f.s).1;unfold Pr.ke;rw[af,af];exact⟨a,b⟩
theorem kU (p:Pr)(i:Bool):((p.ki i).sd i).c=((p.sd i).c.tick p.now).1/\(p.ki i).sd (!i)=p.sd (!i):=by
 obtain⟨a,b,-⟩:=pr p i ((p.sd i).c.tick p.now).1;unfold Pr.ki;rw[af,af];exact⟨a,b⟩
theorem px {i j:Bool}:j=i\/j= !i:=by cases i <;> cases j <;> simp
structure E2 (P:Pr.zc)(N:Bool->Int)(p:Pr):Prop where
 pv:Pr.PV P p
 ft:∃a b,Pr.Fit p a b
 cl:∀i,(p.sd i).closed=true->((p.sd i).str.length:Int)=N i
 re:∀i,(p.sd i).c.reached=true
theorem E2.ke {P:Pr.zc}{N:Bool->Int}{p:Pr}(h:E2 P N p)(m:P.Ok){f:Fl}(hf:f.s.Ok)(g:GS (Pr.kx P p (!f.dst)) f.s/\fj (Pr.kx P p f.dst) f.s):E2 P N (p.ke f):=by
 obtain⟨a,b,e⟩:=h.ft;have d:=Pr.PV.ke h.pv e m hf Z Z Z g.1 (Gw.refl _) g.2;obtain⟨k,n⟩:=mA p f;refine⟨d,⟨_,_,Pr.Ce e hf⟩,fun i=>(by rw[(Pr.tC p f i).1,(Pr.tC p f i).2];exact h.cl i),fun i=> ?_⟩
 rcases px (i:=f.dst) (j:=i)with rfl | rfl
 ·have l:=(d.r f.dst).1;rw[(Pr.tC p f _).1,(Pr.tC p f _).2,k]at l;rw[k];exact RB.reached (h.pv.r f.dst).1 l (ta (e.sd _).c _ _) (h.re _)
 rw[n];exact h.re _
theorem E2.fold {P:Pr.zc}{N:Bool->Int}(b:P.Ok):∀(Q:List Fl) {p:Pr},E2 P N p->(∀f∈Q,f.s.Ok/\GS (Pr.kx P p (!f.dst)) f.s/\fj (Pr.kx P p f.dst) f.s)->E2 P N (Q.foldl Pr.ke p):=by
 intro Q
 induction Q with
 | nil=>intro p h _;exact h
 | cons f Q c =>
  intro p h a;obtain⟨d,e,g⟩:=a f FE;refine c (h.ke b d ⟨e,g⟩) fun x i=> ?_;obtain⟨j,k,l⟩:=a x (by simp[i]);exact⟨j,k.gw (Pr.AE p f _),l.gw (Pr.AE p f _)⟩
theorem kV (p:Pr)(i j:Bool):((p.ki i).sd j).str=(p.sd j).str/\((p.ki i).sd j).closed=(p.sd j).closed:=by
 unfold Pr.ki;rw[af]
 cases i <;> cases j <;> exact⟨Z,Z⟩
theorem E2.ki {P:Pr.zc}{N:Bool->Int}{p:Pr}(h:E2 P N p)(i:Bool):E2 P N (p.ki i):=by
 obtain⟨a,b,c⟩:=h.ft;obtain⟨d,e⟩:=kU p i;refine⟨Pr.PV.ki h.pv c i,⟨_,_,Pr.vw c i⟩,fun j=>(by rw[(kV p i j).1,(kV p i j).2];exact h.cl j),fun j=> ?_⟩
 rcases px (i:=i) (j:=j)with rfl | rfl
 ·rw[d,cu (uR _ _).1];exact h.re _
 rw[e];exact h.re _
theorem Hv.rch {c:Cn}{N:Int}(h:Hv c N)(hx:N<c.expected):c.reached=true:=by
 have h1:=h.nx;unfold Cn.expected at hx;split at hx
 ·assumption
 omega
theorem Cl.ke {P:Pr.zc}{p:Pr}{f:Fl}{Q:List Fl}{q N:Bool->Int}{a b:Int}(h:Cl P p (f::Q) q N a b)(hP:P.Ok) :
  E2 P N (p.ke f)\/(Cl P (p.ke f) Q q N (a+1) (b+1)/\Rc (p.sd f.dst).c ((p.ke f).sd f.dst).c ((p.sd f.dst).c.receive p.now f.s).2 p.now f.s (fY (p.sd (!f.dst)).c.cf.kc f.s-1) (iL (p.sd f.dst).c.cf.kc f.s) (N (!f.dst))/\(p.ke f).sd (!f.dst)=p.sd (!f.dst)/\(p.ke f).wire=p.wire++((p.sd f.dst).c.receive p.now f.s).2.map (p.fl f.dst)/\(p.ke f).now=p.now):=by
 obtain⟨l,nl⟩:=h.ns f.dst;obtain⟨A,-⟩:=h.ns (!f.dst);rw[LF]at A;have t:=h.pl f FE;have I:=h.qg f FE;have e:=Pr.PV.ke h.pv h.ft hP t.1 Z Z Z I.1 (Gw.refl _) I.2;have y:=Pr.Ce h.ft t.1;obtain⟨⟨J,B,K⟩,k4,k5⟩:=kR f.dst ((p.sd f.dst).c.receive p.now f.s).1 ((p.sd f.dst).c.receive p.now f.s).2 h.calm;obtain⟨t1,t2⟩:=kQ f (Q++p.wire);have hi:=h.dp (!f.dst);have C:=h.dp f.dst;rw[LF]at hi;rw[LQ,t1,t2]at hi C;obtain⟨m,L,M,S,T,U,V⟩:=zW hi C t.2.1 t.2.2 l.fM A.nx l.nn.1;have ac:=rX l.hv l.now t.1 m l.st L M S T U V
 rcases nN l.hv l.now t.1 m l.st L M S T U V with k | k
 ·have d:=(C.ack f.s FE).2.1;have a0:=k.2.1
  exact .inl ⟨e,⟨_,_,y⟩,fun i=>(by rw[(Pr.tC p f i).1,(Pr.tC p f i).2];exact h.f2.cl i),fun i=>by
   rcases px (i:=f.dst) (j:=i)with rfl | rfl
   ·exact(congrArg Cn.reached J).trans k.2.2.2
   exact(congrArg (fun s:Sd=>s.c.reached) B).trans (A.hv.rch O)⟩
 have u:((p.ke f).sd f.dst).c=((p.sd f.dst).c.receive p.now f.s).1:=J;have W:(p.ke f).sd (!f.dst)=p.sd (!f.dst):=B;have X:(p.ke f).wire=p.wire++((p.sd f.dst).c.receive p.now f.s).2.map (p.fl f.dst):=K
 have n:∀i,Hs ((p.ke f).sd i).c/\3<=((p.ke f).sd i).c.st:=fun i=>by
  rcases(show i=f.dst\/i= !f.dst by cases i <;> cases f.dst <;> simp)with rfl | rfl
  ·rw[u];exact⟨k.hs,by have:=k.st;have:=l.st;omega⟩
  rw[W];exact⟨h.hs _,h.st _⟩
 have o:Fb (p.ke f) N:=⟨fun j=>by rw[(Pr.tC p f j).1,(Pr.tC p f j).2];exact h.f2.cl j,fun j=>by rw[(Pr.tC p f j).1];exact h.f2.le j,h.f2.sm⟩;obtain⟨E,l3⟩:=Ns.of e y o f.dst (n f.dst).1 (n f.dst).2;rw[u]at E l3
 have F:∀x∈((p.sd f.dst).c.receive p.now f.s).2,x.has=true/\x.syn=false/\x.qa=false:=fun x d=>by
  rcases k.rv.k with⟨z,-⟩ | ⟨-,-,-,z⟩
  ·rw[z]at d;cases d
  exact⟨(z x d).has,(z x d).syn,(z x d).qa⟩
 have bI:∀x∈((p.sd f.dst).c.receive p.now f.s).2,GS (Pr.kx P (p.ke f) f.dst) x/\x.Ok:=fun x d=>by
  have hm:p.fl f.dst x∈(p.ke f).wire:=by rw[X];exact Mm _ (Md.2 ⟨x,d,Z⟩)
  have h1:=(e.w _ hm).1;rw[show(!(p.fl f.dst x).dst)=f.dst from LF _]at h1;exact⟨h1,y.wire _ hm⟩
 have own:CQ (p.sd f.dst).c.cf.kc (N f.dst) ((p.sd f.dst).c.receive p.now f.s).2:=fun x d=>by
  have g:=tS (bI x d).1 (F x d).2.2 (F x d).2.1 (e.s f.dst).1.sm (o.cl _) (o.le _);have ei:(p.sd f.dst).c.cf.kc=(Pr.kx P (p.ke f) f.dst).kc:=(h.pv.s f.dst).1.kc;rw[ei];exact g
 rcases zX h.dp h.calm (fun i=>(h.ns i).1) t E.hv l3 E.nx own with z | ⟨z,-⟩
 ·have h1:=k.st;have h2:=l.st;have h3:=z.2.1;rw[u]at h3;omega
 have G:∀i,((p.ke f).sd i).c.cf=(p.sd i).c.cf:=fun i=>by
  rcases(show i=f.dst\/i= !f.dst by cases i <;> cases f.dst <;> simp)with rfl | rfl
  ·rw[u];exact k.sv.cf
  rw[W]
 refine .inr ⟨⟨e,y,z,o,k5,fun i=>(n i).2,fun i=>(n i).1,?_,fun i=>by rw[G,G];exact h.prt i,fun g r=> ?_⟩,by rw[u];exact k,B,K,k4⟩
 ·intro g r;unfold rW;rw[G];rw[X,<-LK]at r
  rcases LE.1 r with r | r
  ·exact h.pl g (by simpa using .inr (by simpa using r))
  obtain⟨x,d,rfl⟩:=Md.1 r;obtain⟨c1,c2,c3⟩:=F x d;obtain⟨p1,p2⟩:=ac x d;have q1:=h.prt f.dst;have q2:=h.prt (!f.dst);rw[LF]at q2;exact⟨(bI x d).2,⟨c3,c2,c1⟩,p1.trans q1,p2.trans q2.symm⟩
 obtain⟨g1,g2⟩:=h.qg g (by simp[r]);exact⟨g1.gw (Pr.AE p f _),g2.gw (Pr.AE p f _)⟩
theorem Cl.fold {P:Pr.zc}(d:P.Ok){q N:Bool->Int}(F:Pr->List Fl->Prop)
  (step:∀(p:Pr) (f:Fl) (Q:List Fl) (a b:Int),Cl P p (f::Q) q N a b->F p (f::Q)->Cl P (p.ke f) Q q N (a+1) (b+1)->Rc (p.sd f.dst).c ((p.ke f).sd f.dst).c ((p.sd f.dst).c.receive p.now f.s).2 p.now f.s (fY (p.sd (!f.dst)).c.cf.kc f.s-1) (iL (p.sd f.dst).c.cf.kc f.s) (N (!f.dst))->(p.ke f).sd (!f.dst)=p.sd (!f.dst)->(p.ke f).wire=p.wire++((p.sd f.dst).c.receive p.now f.s).2.map (p.fl f.dst)->(p.ke f).now=p.now->F (p.ke f) Q) :
  ∀(Q:List Fl) {p:Pr} {a b:Int},Cl P p Q q N a b->F p Q->E2 P N (Q.foldl Pr.ke p)\/(Cl P (Q.foldl Pr.ke p) [] q N (a+Q.length) (b+Q.length)/\F (Q.foldl Pr.ke p) []):=by
 intro Q
 induction Q with
 | nil=>intro p a b h g;exact .inr ⟨IT,g⟩
 | cons f Q i =>
  intro p a b h g
  rcases h.ke d with k | ⟨k,j,l,m,n⟩
  ·refine .inl (k.fold d Q fun x e=> ?_);obtain⟨o,r⟩:=h.qg x (by simp[e]);exact⟨(h.pl x (by simp[e])).1,o.gw (Pr.AE p f _),r.gw (Pr.AE p f _)⟩
  rcases i k (step p f Q a b h g k j l m n)with z | z
  ·exact .inl z
  refine .inr ?_;rw[Lx,show a+((Q.length+1:Nat):Int)=a+1+Q.length by omega,show b+((Q.length+1:Nat):Int)=b+1+Q.length by omega];exact z
theorem Cl.off {P:Pr.zc}{q N:Bool->Int}{p:Pr}{a b:Int}(h:Cl P p [] q N a b)(d:Pr.Fit { p with wire:=[] } a b):Cl P { p with wire:=[] } p.wire q N a b:=by
 refine⟨⟨h.pv.s,h.pv.r,fun f c=>(by cases c),h.pv.g⟩,d,fun i=> ?_,⟨h.f2.cl,h.f2.le,h.f2.sm⟩,h.calm,h.st,h.hs,fun f c=> ?_,h.prt,fun f c=>h.pv.w f c⟩
 ·have k:=h.dp i;rw[LD]at k;show DI _ _ (jb (!i) (p.wire++[])) (jb i (p.wire++[])) _ _;rw[LM];exact k
 refine h.pl f ?_;rw[LD]
 simpa using c
theorem Cl.op {K:Prop}{P:Pr.zc}{p p':Pr}{q N:Bool->Int}{a b G b':Int}(h:Cl P p [] q N a b)(i:Bool){d:Cn}{l:List Sg}(op:Op K (p.sd i).c d l p.now)(r:(p'.sd i).c=d)(u:p'.sd (!i)=p.sd (!i))(y:p'.wire=p.wire++l.map (p.fl i))(S:p'.kq.length<=p'.many)
  (f:Pr.PV P p')(A:Pr.Fit p' G b')(m:Fb p' N)(B:d.ended=true->(p.sd i).c.ended=true)(T:kT (p.sd i).c.cf l)(U:3<=d.st):Cl P p' [] q N G b':=by
 obtain⟨t,-⟩:=h.ns i;obtain⟨I,-⟩:=h.ns (!i);rw[LF]at I;have hi:=h.dp (!i);have V:=h.dp i;rw[LF]at hi
 have n:∀j,Hs (p'.sd j).c/\3<=(p'.sd j).c.st:=fun j=>by
  rcases(show j=i\/j= !i by cases i <;> cases j <;> simp)with rfl | rfl
  ·rw[r];exact⟨op.hs,U⟩
  rw[u];exact⟨h.hs _,h.st _⟩
 obtain⟨C,J⟩:=Ns.of f A m i (n i).1 (n i).2;rw[r]at C J
 have E:∀x∈l,x.has=true/\x.syn=false/\x.qa=false:=fun x e=>by
  rcases op.rv.k with⟨z,-⟩ | ⟨-,-,-,z⟩
  ·rw[z]at e;cases e
  exact⟨(z x e).has,(z x e).syn,(z x e).qa⟩
 have bI:∀x∈l,GS (Pr.kx P p' i) x/\x.Ok:=fun x e=>by
  have L:p.fl i x∈p'.wire:=by rw[y];exact Mm _ (Md.2 ⟨x,e,Z⟩)
  have h1:=(f.w _ L).1;rw[show(!(p.fl i x).dst)=i from LF _]at h1;exact⟨h1,A.wire _ L⟩
 have own:CQ (p.sd i).c.cf.kc (N i) l:=fun x e=>by
  have g:=tS (bI x e).1 (E x e).2.2 (E x e).2.1 (f.s i).1.sm (m.cl _) (m.le _);have W:(p.sd i).c.cf.kc=(Pr.kx P p' i).kc:=(h.pv.s i).1.kc;rw[W];exact g
 obtain⟨X,ba⟩:=Op.di hi V op t.hv (by have:=t.fM;omega) I.nx t.nn.1 t.nn.2 C.hv J C.nx B own
 have F:∀j,(p'.sd j).c.cf=(p.sd j).c.cf:=fun j=>by
  rcases(show j=i\/j= !i by cases i <;> cases j <;> simp)with rfl | rfl
  ·rw[r];exact op.sv.cf
  rw[u]
 refine⟨f,A,DP.of (p:=p) i r (congrArg Sd.c u) y X ba,m,S,fun j=>(n j).2,fun j=>(n j).1,fun g o=> ?_,fun j=>by rw[F,F];exact h.prt j,fun g o=>by cases o⟩;unfold rW;rw[F];rw[y,<-LK]at o
 rcases LE.1 o with o | o
 ·exact h.pl g o
 obtain⟨x,e,rfl⟩:=Md.1 o;obtain⟨c1,c2,c3⟩:=E x e;obtain⟨p1,p2⟩:=T x e;have q1:=h.prt i;have M:=h.prt (!i);rw[LF]at M;exact⟨(bI x e).2,⟨c3,c2,c1⟩,p1.trans q1,p2.trans M.symm⟩
theorem Cl.ki {P:Pr.zc}{p:Pr}{q N:Bool->Int}{a b:Int}(h:Cl P p [] q N a b)(i:Bool)(o:(p.sd i).c.tries<=11)(hz:(p.sd i).c.flight<=0->0<(p.sd i).c.iq->(p.sd i).c.next+20<=(p.sd i).c.limit) :
  ((p.sd i).c.st=9/\((p.ki i).sd i).c.reached=true)\/(Cl P (p.ki i) [] q N (a+1003) (b+1003)/\Op ((p.sd i).c.dl.due p.now=false) (p.sd i).c ((p.ki i).sd i).c ((p.sd i).c.tick p.now).2 p.now/\(p.ki i).sd (!i)=p.sd (!i)/\(p.ki i).wire=p.wire++((p.sd i).c.tick p.now).2.map (p.fl i)/\(p.ki i).now=p.now):=by
 obtain⟨d,-⟩:=h.ns i;obtain⟨⟨e,m,n⟩,r,s⟩:=kR i ((p.sd i).c.tick p.now).1 ((p.sd i).c.tick p.now).2 h.calm
 rcases BD d.hv d.fM d.now d.st o hz with k | k
 ·exact .inl ⟨k.1,(congrArg Cn.reached e).trans k.2.2⟩
 have f:∀j,((p.ki i).sd j).str=(p.sd j).str/\((p.ki i).sd j).closed=(p.sd j).closed:=fun j=>by
  show(((p.ro i _).put i _).sd j).str=_/\(((p.ro i _).put i _).sd j).closed=_;rw[af]
  cases i <;> cases j <;> exact⟨Z,Z⟩
 have l:Fb (p.ki i) N:=⟨fun j=>by rw[(f j).1,(f j).2];exact h.f2.cl j,fun j=>by rw[(f j).1];exact h.f2.le j,h.f2.sm⟩;exact .inr ⟨h.op i k e m n s (Pr.PV.ki h.pv h.ft i) (Pr.vw h.ft i) l (fun g=>(tW _ _).symm.trans g) (za _ _ d.st d.hv.ok.st.2) (by have:=k.st;have:=d.st;omega),by rw[show((p.ki i).sd i).c=_ from e];exact k,m,n,r⟩
theorem nQ {p:Pr}(i:Bool)(s:Sd)(l:List Sg)(h:p.kq.length<=p.many):(((p.kd i s).put i l).sd i=s/\((p.kd i s).put i l).sd (!i)=p.sd (!i)/\((p.kd i s).put i l).wire=p.wire++l.map (p.fl i))/\((p.kd i s).put i l).now=p.now/\((p.kd i s).put i l).kq.length<=((p.kd i s).put i l).many:=by
 have k:((p.kd i s).sd i=s/\(p.kd i s).sd (!i)=p.sd (!i))/\(p.kd i s).wire=p.wire/\(p.kd i s).now=p.now/\(p.kd i s).kq=p.kq/\(p.kd i s).many=p.many:=by cases i <;> exact⟨⟨Z,Z⟩,Z,Z,Z,Z⟩
 obtain⟨⟨c,d⟩,e,b,f,g⟩:=k;obtain⟨j,m⟩:=rV i l (p.kd i s) (by rw[f,g];exact h);have a:(p.kd i s).fl i=p.fl i:=by funext s;unfold Pr.fl;rw[b]
 rw[af,af];exact⟨⟨c,d,by rw[j,e,a]⟩,(bs i l _).2.2.1.trans b,m⟩
structure UO (p p':Pr)(i:Bool):Prop where
 op:∃l,Op True (p.sd i).c (p'.sd i).c l p.now/\p'.wire=p.wire++l.map (p.fl i)
 Ej:p'.sd (!i)=p.sd (!i)
 now:p'.now=p.now
 all:(p'.sd i).all=(p.sd i).all
theorem UO.none {p:Pr}{i:Bool}(h:Hs (p.sd i).c)(a:(p.sd i).c.pend≠2):UO p p i:=⟨⟨[],.none h a,FE⟩,Z,Z,Z⟩
theorem Cl.recv {P:Pr.zc}{p:Pr}{q N:Bool->Int}{a b:Int}(h:Cl P p [] q N a b)(i:Bool){n:Int}(m:0<=n)(t:(p.sd i).c.pend≠2):Cl P (p.recv i n) [] q N (a+2010) (b+2010)/\UO p (p.recv i n) i:=by
 obtain⟨f,-⟩:=h.ns i;have x:=f.st;have d:=Pr.PV.recv h.pv h.ft i m;have o:=Pr.Dg h.ft i n
 have he:(p.sd i).c.nF n=0:=by
  unfold Cn.nF;rw[L5 O,L5 O]
 obtain⟨⟨k,r,s⟩,u,w⟩:=nQ i { (p.sd i)with c:=((p.sd i).c.recv p.now n).1,got:=(p.sd i).got++(p.sd i).c.bx.nB n,fin:=(p.sd i).fin||(p.sd i).c.qF n } ((p.sd i).c.recv p.now n).2 h.calm
 have e:p.recv i n=(p.kd i { (p.sd i)with c:=((p.sd i).c.recv p.now n).1,got:=(p.sd i).got++(p.sd i).c.bx.nB n,fin:=(p.sd i).fin||(p.sd i).c.qF n }).put i ((p.sd i).c.recv p.now n).2:=by
  unfold Pr.recv;dsimp only;rw[L5 O]
 rw[e]at d o |-;have op:=(uZ f.hv (fun _=>f.fM) f.now O t m).1;refine⟨h.op i op (congrArg Sd.c k) r s w d o ?_ (fun g=>(tV _ _ _).symm.trans g) (zZ _ _ _) (by have:=op.st;omega),⟨_,by rw[k];exact op,s⟩,r,u,by rw[k]⟩
 have l:∀j,(((p.kd i { (p.sd i)with c:=((p.sd i).c.recv p.now n).1,got:=(p.sd i).got++(p.sd i).c.bx.nB n,fin:=(p.sd i).fin||(p.sd i).c.qF n }).put i ((p.sd i).c.recv p.now n).2).sd j).str=(p.sd j).str/\(((p.kd i { (p.sd i)with c:=((p.sd i).c.recv p.now n).1,got:=(p.sd i).got++(p.sd i).c.bx.nB n,fin:=(p.sd i).fin||(p.sd i).c.qF n }).put i ((p.sd i).c.recv p.now n).2).sd j).closed=(p.sd j).closed:=fun j=>by
  rw[af]
  cases i <;> cases j <;> exact⟨Z,Z⟩
 exact⟨fun j=>by rw[(l j).1,(l j).2];exact h.f2.cl j,fun j=>by rw[(l j).1];exact h.f2.le j,h.f2.sm⟩
theorem Cl.shut {P:Pr.zc}{p:Pr}{q N:Bool->Int}{a b:Int}(h:Cl P p [] q N a b)(i:Bool)(k:(p.sd i).c.pend≠2)(t:((p.sd i).str.length:Int)=N i):Cl P (p.shut i) [] q N (a+2010) (b+2010)/\UO p (p.shut i) i:=by
 obtain⟨f,-⟩:=h.ns i;have x:=f.st;have d:=Pr.PV.shut h.pv h.ft i;have e:=Pr.DH h.ft i;unfold Pr.shut at d e |-;dsimp only at d e |-;split
 ·rename_i l;rw[L7 l]at d e;exact⟨⟨d,e,h.dp,h.f2,h.calm,h.st,h.hs,h.pl,h.prt,h.qg⟩,.none (h.hs i) k⟩
 rename_i l;rw[L5 l]at d e;split
 ·rename_i m;rw[L7 m]at d e;exact⟨⟨d,e,h.dp,h.f2,h.calm,h.st,h.hs,h.pl,h.prt,h.qg⟩,.none (h.hs i) k⟩
 rename_i m;rw[L5 m]at d e;obtain⟨⟨n,r,s⟩,u,w⟩:=nQ i { (p.sd i)with c:=((p.sd i).c.close p.now).1,closed:=true } ((p.sd i).c.close p.now).2 h.calm;have op:=zU f.hv (fun _=>f.fM) f.now O k;refine⟨h.op i op (congrArg Sd.c n) r s w d e ?_ (fun g=>(rY _ _ O).symm.trans g) (wj _ _ O) (by have:=op.st;omega),⟨_,by rw[n];exact op,s⟩,r,u,by rw[n]⟩
 have o:∀j,(((p.kd i { (p.sd i)with c:=((p.sd i).c.close p.now).1,closed:=true }).put i ((p.sd i).c.close p.now).2).sd j).str=(p.sd j).str/\((((p.kd i { (p.sd i)with c:=((p.sd i).c.close p.now).1,closed:=true }).put i ((p.sd i).c.close p.now).2).sd j).closed=true->(p.sd j).closed=true\/j=i):=fun j=>by
  rw[af]
  cases i <;> cases j <;> first | exact⟨Z,fun g=>.inl g⟩ | exact⟨Z,fun _=>.inr Z⟩
 exact⟨fun j g=>by
  rw[(o j).1]
  rcases(o j).2 g with g | rfl
  ·exact h.f2.cl j g
  exact t,fun j=>by rw[(o j).1];exact h.f2.le j,h.f2.sm⟩
theorem Cl.send {P:Pr.zc}{p:Pr}{q N:Bool->Int}{a b:Int}(h:Cl P p [] q N a b)(i:Bool)(n:Int)(r:(p.sd i).c.pend≠2)(f:(((p.send i n).sd i).str.length:Int)<=N i):Cl P (p.send i n) [] q N (a+2010) (b+2010)/\UO p (p.send i n) i:=by
 obtain⟨l,-⟩:=h.ns i;have y:=l.st;have d:=Pr.PV.send h.pv h.ft i n;have e:=Pr.Dz h.ft i n;unfold Pr.send at d e f|-;dsimp only at d e f|-;split
 ·rename_i m;rw[L7 m]at d e;exact⟨⟨d,e,h.dp,h.f2,h.calm,h.st,h.hs,h.pl,h.prt,h.qg⟩,.none (h.hs i) r⟩
 rename_i m;rw[L5 m]at d e f;split
 ·rename_i s;rw[L7 s]at d e;exact⟨⟨d,e,h.dp,h.f2,h.calm,h.st,h.hs,h.pl,h.prt,h.qg⟩,.none (h.hs i) r⟩
 rename_i s;rw[L5 s]at d e f;obtain⟨⟨k,o,t⟩,u,w⟩:=nQ i { (p.sd i)with c:=((p.sd i).c.send p.now (Pr.bytes (p.sd i) n)).1,sent:=(p.sd i).sent+(p.sd i).c.nX (Pr.bytes (p.sd i) n) } ((p.sd i).c.send p.now (Pr.bytes (p.sd i) n)).2 h.calm;have z:=(h.ft.sd i).last;have x:=(h.ft.sd i).sl;have A:=(h.ft.sd i).len
 have B:((Pr.bytes (p.sd i) n).length:Int)<=1000:=by
  unfold Pr.bytes;rw[Lq,Le];omega
 have op:=BE l.hv (fun _=>l.fM) l.now O r (Pr.bytes (p.sd i) n) O;rw[k]at f;refine⟨h.op i op (congrArg Sd.c k) o t w d e ⟨fun j g=> ?_,fun j=> ?_,h.f2.sm⟩ (fun g=>(tU _ _ _).symm.trans g) (zY _ _ _) (by have:=op.st;omega),⟨_,by rw[k];exact op,t⟩,o,u,by rw[k]⟩
 ·rcases(show j=i\/j= !i by cases i <;> cases j <;> simp)with rfl | rfl
  ·rw[k]at g;exact absurd (.inl g) m
  rw[o]at g|-;exact h.f2.cl _ g
 rcases(show j=i\/j= !i by cases i <;> cases j <;> simp)with rfl | rfl
 ·rw[k];exact f
 rw[o];exact h.f2.le _
end Go.Proofs.YtcmncipikdpnbaaGreatDoor
