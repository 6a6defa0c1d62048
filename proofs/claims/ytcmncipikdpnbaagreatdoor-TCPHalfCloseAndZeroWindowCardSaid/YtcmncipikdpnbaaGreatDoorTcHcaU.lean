import Derived.Test.YtcmncipikdpnbaaGreatDoorUb36
namespace Go.Proofs.YtcmncipikdpnbaaGreatDoor
structure SW (c d:Cn)(l:List Sg)(p:Int):Prop where
 fM:c.fM<=d.fM
 nx:c.next<=d.next
 lim:c.limit<=d.limit
 last:c.last<=d.last
 cf:d.cf=c.cf
 Gt:∀o,p<=o->c.next<=o->o<d.next->o<d.last->∃s∈l,∃lo,s.sq=aw c.cf.kc lo/\lo<=o/\o<lo+s.s.length/\lo+s.s.length<=d.limit
 Gb:∀s∈l,∃lo,s.sq=aw c.cf.kc lo/\d.fM<=lo/\lo+s.s.length+mR s<=d.next
theorem SV.sw {c d:Cn}{l:List Sg}(h:SV c d l)(p:Int):SW c d l p:=⟨h.fM,h.nx,h.lim,h.last,h.cf,fun o _=>h.Gt o,h.Gb⟩
structure Oj (p:Int)(c d:Cn)(l:List Sg)(now:Int):Prop where
 sw:SW c d l p
 rv:RV c d l now
 fM:d.fM=c.fM
 lim:d.limit=c.limit
 has:∀i,d.bx.has i↔c.bx.has i
 exp:d.expected=c.expected
 hs:Hs d
 st:d.st=c.st\/3<=d.st
 ex:Ex (c.dl.due now=false) c d now
 set:(0<c.flight->c.dl.set=true)->0<d.flight->d.dl.set=true
 IA:tQ c->tQ d
 AC:d.largest=c.largest
theorem Op.Oy {c d:Cn}{l:List Sg}{now:Int}(h:Op (c.dl.due now=false) c d l now)(p:Int):Oj p c d l now:=⟨h.sv.sw p,h.rv,h.fM,h.lim,h.has,h.exp,h.hs,h.st,h.xv.ex,h.xv.set,h.xv.IA,h.AC⟩
theorem Oz {c:Cn}{N:Int}(h:Hv c N)(P:1<=c.fM){now:Int}(hn:aI now)(h3:3<=c.st)(ht:c.tries<=11) :
  (c.st=9/\(c.tick now).1.st=0/\(c.tick now).1.reached=true)\/∃p,Oj p c (c.tick now).1 (c.tick now).2 now/\(p<=c.next\/(p=c.next+1/\c.flight<=0/\c.limit<=c.next)):=by
 by_cases hz:c.flight<=0->0<c.iq->c.next+20<=c.limit
 ·rcases BD h P hn h3 ht hz with k | k
  ·exact .inl k
  exact .inr ⟨c.next,k.Oy _,.inl (L9 _)⟩
 have hz1:c.flight<=0/\0<c.iq:=⟨Classical.byContradiction fun g=>hz fun a=>absurd a g,Classical.byContradiction fun g=>hz fun _ a=>absurd a g⟩;clear hz;have ok:=h.ok;have A:=ok.st;have so:=h.so P;have hs:=h.hs;unfold Cn.tick;rw[L5 O];split
 ·rename_i h9;refine .inl ⟨h9.1,dB c now _ (.inr Z),?_⟩;rw[cu (cR c now 9 0)];exact h.ov (h.st O)
 refine .inr ?_;split
 ·rename_i f;dsimp only;rw[L5 O];have ab:bU c.st=true:=Lc ⟨h3,A.2⟩;rw[show(if bU c.st=true then(Cn.expire { c with tries:=c.tries+1,tm:=c.tm.og.ka,dl:=.wA now c.tm.og.ka.value }).1.oi now (Cn.expire { c with tries:=c.tries+1,tm:=c.tm.og.ka,dl:=.wA now c.tm.og.ka.value }).2 else(({ c with tries:=c.tries+1,tm:=c.tm.og.ka,dl:=.wA now c.tm.og.ka.value }:Cn).v6,[({ c with tries:=c.tries+1,tm:=c.tm.og.ka,dl:=.wA now c.tm.og.ka.value }:Cn).qI]))=(Cn.expire { c with tries:=c.tries+1,tm:=c.tm.og.ka,dl:=.wA now c.tm.og.ka.value }).1.oi now (Cn.expire { c with tries:=c.tries+1,tm:=c.tm.og.ka,dl:=.wA now c.tm.og.ka.value }).2 from L7 ab];obtain⟨e,he⟩:∃e:Cn,e={ c with tries:=c.tries+1,tm:=c.tm.og.ka,dl:=.wA now c.tm.og.ka.value }:=⟨_,Z⟩;have a2:0<=c.tm.backs:=ok.tm.1.2.2.2.2.1;have l:e.Ok:=by rw[he];exact ok.back hn (O:¬12<c.tries+1)
  rw[<-he]
  have t:Pre (c.dl.due now=false) c e now:=by
   rw[he];refine⟨L9 _,Z,L9 _,L9 _,Z,fun _ h=>h,L9 _,Z,Z,.inr (.inl ⟨Z,Z,Z⟩),L9 _,id,fun g=>⟨g.sf,g.fa,g.ub⟩,fun g _ _ _=>(by rw[f]at g;cases g),fun g=> ?_,fun _ _=>by have h1:=(lz (m:=c.tm.og.ka) (k:=0) (fun a=>absurd a D)).1;show now<now+c.tm.og.ka.value;have h2:ru 0=4:=Z;omega⟩;unfold Al.due at f;simp only[Ly,Lh]at f;have h1:=g.dl f.1;have h2:=nM g.t0
   have h3:0<c.tries+1->min (c.tries+1) 8<=c.tm.og.ka.backs:=fun _=>by
    have B:=g.bk;have h5:=g.t0;have h6:=a2;show _<=min (c.tm.backs+1) 8;omega
   have B:=lz h3;exact⟨by show 0<=c.tries+1;have:=g.t0;omega,h3,by show BC (c.tries+1)<=now;omega,fun _=>⟨by show BC (c.tries+1)<=now;omega,B.1,L9 _,B.2⟩⟩
  have C:F6 e:=by rw[he];exact⟨so.u1,so.bu,so.nl⟩
  have ac:Hs e:=by rw[he];exact⟨hs.ov,hs.vo,hs.st,hs.ts⟩
  have w:e.sc=c.sc/\e.st=c.st/\e.bx=c.bx/\e.limit=c.limit/\e.expected=c.expected/\e.gi=c.gi/\e.last=c.last/\e.ann=c.ann/\e.room=c.room/\e.largest=c.largest:=by rw[he];exact⟨Z,Z,Z,Z,Z,Z,Z,Z,Z,Z⟩
  obtain⟨w,f2,f3,f4,S,f6,E,f8,f9,F⟩:=w;have G:e.fM=c.fM:=by unfold Cn.fM;rw[w]
  have fn:e.next=c.next:=by unfold Cn.next;rw[w]
  have T:e.iq=c.iq:=by unfold Cn.iq;rw[E,fn]
  have u:=l.expire;unfold Cn.expire at u|-;have I:e.flight=c.flight:=by unfold Cn.flight;rw[w]
  have ak:e.st≠0:=O
  rw[L5 (by rw[I];omega)]at u|-;rw[L5 (by rw[T];omega)]at u|-;have b0:0<e.iq:=by rw[T];exact hz1.2
  have b1:=l.gi;have ad:e.iq=max 0 (e.last-e.next):=Z;obtain⟨n,x⟩:∃n,n=max 1 (min (min e.gi (e.limit-e.next)) e.iq):=⟨_,Z⟩;rw[<-x]at u|-;have U:1<=n/\e.next+n<=e.last:=O
  have V:e.base<=e.next:=by have:=C.bu;have:=l.fM;omega
  have r:=fH l (now:=now) (n:=n) O U.2;have hfn:(e.nY n).next=e.kn n:=r.1;have W:=vG l V O U.2;have X:=(Said.refl e).more (ee l) { dH with s:=e.data e.next (e.kn n),fin:=e.shut&&decide (e.last<e.kn n) } e.next Z Z (e.nY n) (ii e n) ⟨Z,Z,Z,Z⟩;rw[LD]at X;have su:=uB e.sc (e.kn n);have z:(e.nY n).fM=e.fM:=su.1;have a0:e.next+((e.kl n).s.length:Int)+mR (e.kl n)<=e.kn n:=oD V O (fun g=>by omega)
  have ag:F6 (e.nY n):=by
   refine⟨by rw[z];exact C.u1,by rw[z];exact C.bu,?_⟩;rw[hfn];show e.kn n<=e.last+if e.shut=true then 1 else 0;have h1:=r.2.2;unfold Cn.kn;split
   ·rename_i hh;rw[L7 hh.1];omega
   split <;> omega
  unfold Cn.oi;dsimp only;rw[L5 (by rw[show(e.nY n).pend=0 from Z];intro g;have:=g.1;omega)];have h0:(e.nY n).st≠0:=by rw[show(e.nY n).st=e.st from Z];omega
  have j:xa (e.nY n) ((e.nY n).push now).1 ((e.nY n).push now).2:=(oE u ag hn).1;obtain⟨a3,p3⟩:=gL u hn h0;have y:=(show Said e (e.nY n) [e.kl n]from X).trans a3 (ee l);have hx:=cE y.fx;have a9:((e.nY n).push now).1.last=c.last:=j.last.trans E;have aa:=j.nx;have b2:=r.2.1;have q:=j.fM.trans z;have J:=io (e.nY n) now;have x1:Ex True e (e.nY n) now:=.same now Z Z Z su.1 Z Z Z Z Z;have x2:=uX j J.1 (J.2 h0);refine⟨if c.limit<=c.next then c.next+1 else c.next,⟨⟨by rw[q,G];exact L9 _,by show c.next<=((e.nY n).push now).1.next;rw[hfn]at aa;omega,by rw[j.lim];exact Mr f4.symm,Mr a9.symm,j.cf.trans t.cf,fun o hp a b d=> ?_,fun s hs=> ?_⟩,⟨fun i hi=>by rw[y.fx.bx,f3];exact hi,by rw[hx.1,S];exact L9 _,y.fx.tq.trans t.tq,p3,?_⟩,q.trans G,j.lim.trans f4,fun i=>by rw[y.fx.bx,f3],hx.1.trans S,?_,?_,?_,fun _=>(J.2 h0).1,fun _=>nK u hn,j.AC.trans F⟩,?_⟩
  ·by_cases ho:o<(e.nY n).next
   ·rw[a9,<-E]at d;rw[hfn]at ho
    have b3:e.limit-e.next>0:=by
     rw[f4,fn];split at hp
     ·rename_i hq
      exfalso
      have h1:=r.2.2;have h2:n=1:=by rw[x,f4,fn];omega
      rw[fn]at h1;omega
     omega
    refine⟨e.kl n,FE,e.next,?_,O,?_,?_⟩
    ·rw[<-t.cf];exact(jj e _ _).1
    ·rw[W];omega
    rw[W,j.lim];show _<=e.limit;omega
   obtain⟨s,hs,lo,g1,K,L,g4⟩:=j.Gt o O b (by rw[j.last]at d;exact d);exact⟨s,Mm _ hs,lo,by rw[<-t.cf];exact g1,K,L,by rw[j.lim];exact g4⟩
  ·rcases LE.1 hs with hs | hs
   ·rw[Lu.1 hs];exact⟨e.next,by rw[<-t.cf];exact(jj e _ _).1,by rw[q];exact l.fM.2.1,by rw[hfn]at aa;omega⟩
   obtain⟨lo,g1,K,L⟩:=j.Gb s hs;exact⟨lo,by rw[<-t.cf];exact g1,by rw[j.fM];exact K,L⟩
  ·rcases y.k with⟨M,-⟩ | ⟨M,k2,k3,k4⟩
   ·exact absurd M FE
   have h1:=(ks (ee l)).1;rw[f8]at h1;exact .inr ⟨M,k2,Lz h1 (Mr k3.symm),k4⟩
  ·refine Hs.push ?_ now;exact ac.fx (ii e n) Z Z
  ·rw[dA];exact .inl f2
  ·refine t.ex.trans (x1.trans x2 (Mr z.symm) (Mr j.fM.symm) (by rw[hfn];omega)) (Mr G.symm) (Mr (q).symm) (Mr fn.symm)
  split
  ·rename_i hq;exact .inr ⟨Z,hz1.1,hq⟩
  exact .inl (L9 _)
 rename_i f;exact⟨c.next,(j9 hn ⟨L9 _,Z,L9 _,L9 _,Z,fun _ h=>h,L9 _,Z,Z,.inr (.inl ⟨Z,Z,Z⟩),.of JC (.same now Z Z Z Z Z Z Z Z Z)⟩ ok so hs O Z Z Z Z Z Z).Oy _,.inl (L9 _)⟩
theorem DI.low {s r:Cn}{c A:List Sg}{q N:Int}(h:DI s r c A q N)(f:q<=r.expected+1)(hf:r.ended=true->r.ox=N):DI s r c A 1 N:=by
 refine { h with safe:=fun o a b d=> ?_ }
 rcases Mx o q with g | g
 ·refine .inl (.inl ⟨O,?_⟩);by_cases e:r.reached=true
  ·unfold Cn.reached at e;rw[Ly,Lh]at e;have:=hf e.1;omega
  have:r.expected=r.bx.nx:=by unfold Cn.expected;rw[L5 e]
  omega
 exact h.safe o g b d
theorem DI.OH {s r:Cn}{a A:List Sg}{q q' p N:Int}(h:DI s r a A q N){s':Cn}{l:List Sg}(sw:SW s s' l p)(b:s'.fM=s.fM)(u:s'.limit=s.limit)(I:q<=q')(z:∀o,q'<=o->s.next<=o->p<=o)
  (J:s'.next<=N+2)(i:s'.next<=s'.last\/s'.last=N+1)(hl:CQ s.cf.kc N l)(h0:0<=s.fM)(B:N<=99000) :
  DI s' r (a++l) A q' N:=by
 have a0:=sw.cf;have j:=sw.nx
 have c:∀g∈l,∀lo,g.sq=aw s.cf.kc lo->s'.fM<=lo->lo+g.s.length+mR g<=s'.next->fY s.cf.kc g=lo:=by
  intro g _ lo e h1 h2;have:=lw g;unfold fY;rw[e];exact pp _ O O
 refine⟨h.tq.trans (by rw[a0]),?_,by rw[a0,b];exact h.ack,by rw[a0];exact h.Hg,by rw[b];exact h.fM,by have:=h.Ds;omega,by rw[u];exact h.lim,?_,by rw[a0,b];exact h.told,by rw[a0,u];exact h.EX,fun o m=>by have:=h.Hh o m;omega,fun g=>by have:=h.Ez g;omega⟩
 ·intro g hg;rw[a0]
  rcases LE.1 hg with hg | hg
  ·exact(h.seg g hg).mono j
  obtain⟨lo,e,h1,h2⟩:=sw.Gb g hg;have b:=c g hg lo e h1 h2;obtain⟨w,x⟩:=hl g hg;exact⟨by rw[b];exact e,w,by rw[b];exact h2,x⟩
 intro o m h1 h2;rw[a0];by_cases hb:o<s.next
 ·rcases h.safe o O hb h2 with k | ⟨g,hg,k⟩
  ·exact .inl k
  exact .inr ⟨g,by simp[hg],k⟩
 obtain⟨g,hg,lo,e,w,x,K⟩:=sw.Gt o (z o m O) O h1 O;obtain⟨d,y,C,E⟩:=sw.Gb g hg;have L:=c g hg d y C E;have hf:=lw g;by_cases f:r.reached=true
 ·have:=h.Ds;have F:r.expected=r.bx.nx+1:=by unfold Cn.expected;rw[L7 f]
  have:=h.Ez (by unfold Cn.reached at f;simp at f;exact f.1);omega
 have n:r.reached=false:=JC
 have t:lo=d:=by
  have G:=e.symm.trans y;have M:=h.fM;have P:=h.Ds;unfold aw at G;omega
 subst t;exact .inr ⟨g,by simp[hg],O,O,by have:=h.lim n;omega⟩
theorem Oj.di {c d e:Cn}{a A l:List Sg}{p q q' r' N M now:Int}(hi:DI e c a A q N)(ho:DI c e A a q' M)(op:Oj p c d l now)(h:Hv c N)(k:0<=c.fM)(he:e.next<=N+2)(m:N<=99000)(n:M<=99000)(j:Hv d N)(hl:d.next<=d.last\/d.last=M+1)(b:d.next<=M+2)(f:d.ended=true->c.ended=true)(g:CQ c.cf.kc M l)(r:q'<=r')(s:∀o,r'<=o->c.next<=o->p<=o) :
  DI e d a (A++l) q N/\DI d e (A++l) a r' M :=
 ⟨DI.If (D0:=[]) hi op.rv (.inl ⟨Z,fun i hi=>(op.has i).1 hi,f⟩) (kP h j op.rv.exp) (zV _) j.fe (nO h.ok).1 he m,ho.OH op.sw op.fM op.lim r s b hl g k n⟩
theorem qI {c e:Cn}{d A:List Sg}{q q' N M now:Int}(hi:DI e c d A q N)(ho:DI c e A d q' M)(h:Hv c N)(s:1<=c.fM)(hn:aI now)(h3:3<=c.st)(ht:c.tries<=11)(he:e.next<=N+2)(m:N<=99000)(n:M<=99000)(r:Hv (c.tick now).1 N)(hl:(c.tick now).1.next<=(c.tick now).1.last\/(c.tick now).1.last=M+1)(f:(c.tick now).1.next<=M+2)(g:(c.tick now).1.ended=true->c.ended=true)(i:CQ c.cf.kc M (c.tick now).2)(j:q'<=c.fM+1) :
  (c.st=9/\(c.tick now).1.st=0/\(c.tick now).1.reached=true)\/∃p r',Oj p c (c.tick now).1 (c.tick now).2 now/\(∀o,r'<=o->c.next<=o->p<=o)/\q'<=r'/\r'<=(c.tick now).1.fM+1/\DI e (c.tick now).1 d (A++(c.tick now).2) q N/\DI (c.tick now).1 e (A++(c.tick now).2) d r' M:=by
 rcases Oz h s hn h3 ht with k | ⟨p,k,l⟩
 ·exact .inl k
 have t:=h.ok.fM;have u:c.flight=c.next-c.fM:=Z
 rcases l with l | ⟨l,w,x⟩
 ·obtain⟨d1,d2⟩:=k.di hi ho h O he m n r hl f g i (L9 q') (fun o _ b=>by omega);exact .inr ⟨p,q',k,fun o _ b=>by omega,L9 _,by rw[k.fM];exact j,d1,d2⟩
 obtain⟨d1,d2⟩:=k.di hi ho h O he m n r hl f g i (r':=c.fM+1) j (fun o a b=>by omega);exact .inr ⟨p,c.fM+1,k,fun o a b=>by omega,j,by rw[k.fM];exact L9 _,d1,d2⟩
def Oc (c:Cn)(q N:Int):Prop:=∀o,q<=o->o<c.next->o<=N->o<c.limit
theorem Oc.sw {c d:Cn}{l:List Sg}{p q N:Int}(h:Oc c q N)(k:SW c d l p)(f:∀o,q<=o->c.next<=o->p<=o)(hl:d.next<=d.last\/d.last=N+1):Oc d q N:=fun o a b n=>by
 have e:=k.lim
 rcases Mx o c.next with g | g
 ·have:=h o a g n;omega
 ·obtain⟨s,-,lo,-,-,i,j⟩:=k.Gt o (f o a g) g b O;omega
theorem Oc.sv {c d:Cn}{l:List Sg}{q N:Int}(h:Oc c q N)(k:SV c d l)(hl:d.next<=d.last\/d.last=N+1):Oc d q N:=h.sw (k.sw q) (fun _ a _=>a) hl
theorem Oc.mono {c:Cn}{q q' N:Int}(h:Oc c q N)(b:q<=q'):Oc c q' N:=fun o a=>h o O
theorem Oc.cut {c:Cn}{q N:Int}(h:c.next<=q):Oc c q N:=fun o a b _=>by omega
end Go.Proofs.YtcmncipikdpnbaaGreatDoor
