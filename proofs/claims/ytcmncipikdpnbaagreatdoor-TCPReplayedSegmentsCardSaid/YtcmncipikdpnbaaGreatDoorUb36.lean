import Derived.Test.YtcmncipikdpnbaaGreatDoorUb21
namespace Go.Proofs.YtcmncipikdpnbaaGreatDoor
structure Carry (d:Cn)(s:Sg):Prop where
 has:s.has=true
 syn:s.syn=false
 te:s.te=false
 ak:s.ak=d.number d.expected
 win:s.win=d.ann-d.bx.nx
theorem kw {c:Cn}(a:c.bx.nx<=c.most):c.ann<=c.raised c.go/\c.bx.nx<=c.raised c.go:=by
 unfold Cn.raised;split
 ·rename_i h;unfold Cn.C7 at h;have:=LN h;omega
 omega
theorem rE {c d:Cn}(a:c.bx.nx<=c.most)(ha:d.ann=c.raised c.go)(h1:d.bx=c.bx)(h2:d.go=c.go)(b:d.room=c.room):d.raised d.go=d.ann:=by
 have e:d.most=c.most:=by unfold Cn.most;rw[h1]
 have k:=kw a
 have f:d.C7 d.go=false:=by
  unfold Cn.C7
  apply Lh
  rw[ha,h2,b,e];unfold Cn.raised;split
  ·omega
  rename_i h;unfold Cn.C7 at h;have h2:=Nf (by simpa using h:decide (c.ann<c.most/\min c.go (c.room/2)<=c.most-c.ann)=false);omega
 unfold Cn.raised;rw[L7 (by rw[f];decide),h1];omega
theorem cE {c d:Cn}(f:Fx c d):d.expected=c.expected/\d.number d.expected=c.number c.expected:=by
 have e:d.expected=c.expected:=by unfold Cn.expected Cn.reached;rw[f.bx,f.ended,f.sw]
 refine⟨e,?_⟩;rw[e];unfold Cn.number;rw[f.A2]
theorem Carry.fx {c d:Cn}{s:Sg}(h:Carry c s)(f:Fx c d)(ha:d.ann=c.ann):Carry d s :=
 ⟨h.has,h.syn,h.te,h.ak.trans (cE f).2.symm,by rw[h.win,ha,f.bx]⟩
structure Said (c d:Cn)(l:List Sg):Prop where
 fx:Fx c d
 go:d.go=c.go
 room:d.room=c.room
 k:(l=[]/\d.ann=c.ann/\d.pend=c.pend/\d.t8=c.t8)\/(l≠[]/\d.pend=0/\d.ann=c.raised c.go/\∀s∈l,Carry d s)
theorem Said.refl (c:Cn):Said c c []:=⟨.refl c,Z,Z,.inl ⟨Z,Z,Z,Z⟩⟩
theorem Said.raised {c d:Cn}{l:List Sg}(h:Said c d l)(a:c.bx.nx<=c.most):d.raised d.go=c.raised c.go:=by
 rcases h.k with⟨-,h1,-,-⟩ | ⟨-,-,h1,-⟩
 ·unfold Cn.raised Cn.C7 Cn.most;rw[h1,h.fx.bx,h.go,h.room]
 rw[rE a h1 h.fx.bx h.go h.room,h1]
theorem sY (c:Cn)(g:Sg)(off:Int)(a:g.syn=false)(b:g.te=false)(d:Cn)(f:Fx c d)(ha:d.ann=c.raised c.go):Carry d (c.v7 g off):=by
 obtain⟨h,e⟩:=cE f;unfold Cn.v7;rw[L7 (by rw[a];decide)];exact⟨Z,a,b,e.symm,by rw[ha,f.bx]⟩
theorem Said.more {c d:Cn}{l:List Sg}(h:Said c d l)(b:c.bx.nx<=c.most)(g:Sg)(off:Int)(i:g.syn=false)(j:g.te=false)(e:Cn)(f:Fx d e)(he:e.pend=0/\e.ann=d.raised d.go/\e.go=d.go/\e.room=d.room):Said c e (l++[d.v7 g off]):=by
 have a:=h.raised b;refine⟨h.fx.trans f,he.2.2.1.trans h.go,he.2.2.2.trans h.room,.inr ⟨IK,he.1,by rw[he.2.1,a],fun s hs=> ?_⟩⟩
 rcases LH.1 hs with hs | hs
 ·rcases h.k with⟨h1,-⟩ | ⟨-,-,m,n⟩
  ·rw[h1]at hs;cases hs
  exact(n s hs).fx f (by rw[he.2.1,a,m])
 rw[Ly.1 hs];exact sY d g off i j e f he.2.1
theorem Said.trans {c d e:Cn}{l m:List Sg}(h:Said c d l)(k:Said d e m)(o:c.bx.nx<=c.most):Said c e (l++m):=by
 have n:=h.raised o;refine⟨h.fx.trans k.fx,k.go.trans h.go,k.room.trans h.room,?_⟩
 rcases k.k with⟨i,a,b,j⟩ | ⟨i,a,b,j⟩
 ·rw[i,LP]
  rcases h.k with⟨h1,h2,f,g⟩ | ⟨h1,h2,f,g⟩
  ·exact .inl ⟨h1,a.trans h2,b.trans f,j.trans g⟩
  exact .inr ⟨h1,b.trans h2,a.trans f,fun s hs=>(g s hs).fx k.fx a⟩
 refine .inr ⟨by simp[i],a,by rw[b,n],fun s hs=> ?_⟩
 rcases LH.1 hs with hs | hs
 ·rcases h.k with⟨h1,-⟩ | ⟨-,-,f,g⟩
  ·rw[h1]at hs;cases hs
  exact(g s hs).fx k.fx (by rw[b,n,f])
 exact j s hs
theorem rF {c:Cn}(ok:c.Ok){x:Sp}{t:List Sp}(d:c.sc.lost c.go=x::t) :
  c.sc.Eh (aK c.go x)=0/\c.gi<=x.1/\x.1<(aK c.go x).2/\(aK c.go x).2<=x.2/\x.2<=c.next/\(aK c.go x).2<=x.1+c.go/\({ c.tq with sc:=c.sc.ret (aK c.go x),tm:=c.tm.rl }:Cn).Ok:=by
 have i:=ok.go;have b:x∈c.sc.lost c.go:=by rw[d];simp
 obtain⟨e,f,g,-⟩:=du ok.sc (m:=c.go) (by omega) b;unfold i7 at e;have a:(aK c.go x).2=min x.2 (x.1+c.go):=Z;obtain⟨h,-,-⟩:=mE ok.sc (m:=c.go) (by omega) b (x:=aK c.go x) Z (by rw[a];show x.1<_;omega) (by rw[a];omega);exact⟨by unfold Sc.Eh;rw[L9 h],f,by omega,by omega,g,by omega,(ok.tq.DH (ok.sc.ret _)).DY (Tm.A3 ok.tm)⟩
theorem eZ {c:Cn}(ok:c.Ok):c.bx.nx<=c.most:=by have:=ok.bx.Du;unfold Cn.most;omega
theorem sZ (n:Nat):∀{c0 c:Cn} (l:List Sg),c0.bx.nx<=c0.most->c.Ok->Said c0 c l->Said c0 (oi n c l).1 (oi n c l).2:=by
 induction n with
 | zero=>intro c0 c l _ _ h;exact h
 | succ n b =>
  intro c0 c l a ok h;unfold oi;split
  ·cases hl:c.sc.lost c.go with
   | nil=>exact h
   | cons x t =>
    dsimp only;obtain⟨h1,-,-,-,-,-,h2⟩:=rF ok hl;rw[L9 h1];exact b _ a h2 (h.more a _ _ Z Z { c.tq with sc:=c.sc.ret (aK c.go x),tm:=c.tm.rl } ⟨Z,Z,Z,Z⟩ ⟨Z,Z,Z,Z⟩)
  exact h
theorem rG {c0 c:Cn}{l:List Sg}(h:Said c0 c l)(a:c0.bx.nx<=c0.most)(now n:Int):Said c0 (c.out now n) (l++[c.kr n]) :=
 h.more a { dE with s:=c.data c.next (c.ms n),fin:=c.shut&&decide (c.last<c.ms n) } c.next Z Z (c.out now n) (sD c now n) ⟨Z,Z,Z,Z⟩
theorem se {now:Int}(b:aI now)(n:Nat):∀{c0 c:Cn} (l:List Sg),c0.bx.nx<=c0.most->c.Ok->Said c0 c l->Said c0 (nA now n c l).1 (nA now n c l).2:=by
 induction n with
 | zero=>intro c0 c l _ _ h;exact h
 | succ n d =>
  intro c0 c l a ok h;unfold nA;split
  ·exact d _ a (ok.out b _) (rG h a now _)
  exact h
theorem si {c:Cn}(ok:c.Ok){now:Int}(d:aI now):Said c (c.qb now).1 (c.qb now).2:=by
 unfold Cn.qb;dsimp only;have e:=sZ (c.flight.toNat+1) [] (eZ ok) ok (Said.refl c);have a:=Cn.Ok.oi (c.flight.toNat+1) ok [];generalize oi (c.flight.toNat+1) c []=r at e a|-;have b:=se d (r.1.kc.toNat+1) r.2 (eZ ok) a e;have f:=Cn.Ok.nA d (r.1.kc.toNat+1) a r.2;generalize nA now (r.1.kc.toNat+1) r.1 r.2=q at b f|-;unfold Cb;split
 ·exact rG b (eZ ok) now 0
 exact b
theorem pV (c:Cn)(now:Int):(c.o6 now).ann=c.ann/\(c.o6 now).pend=c.pend/\(c.o6 now).t8=c.t8/\(c.o6 now).go=c.go/\(c.o6 now).room=c.room:=by
 unfold Cn.o6;split
 ·exact⟨Z,Z,Z,Z,Z⟩
 split <;> exact⟨Z,Z,Z,Z,Z⟩
theorem Said.o6 {c d:Cn}{l:List Sg}(h:Said c d l)(now:Int):Said c (d.o6 now) l:=by
 obtain⟨a,g,i,j,m⟩:=pV d now;have f:=mW d now;refine⟨h.fx.trans f,j.trans h.go,m.trans h.room,?_⟩
 rcases h.k with⟨h1,h2,b,e⟩ | ⟨h1,h2,b,e⟩
 ·exact .inl ⟨h1,a.trans h2,g.trans b,i.trans e⟩
 exact .inr ⟨h1,g.trans h2,a.trans b,fun s hs=>(e s hs).fx f a⟩
theorem gQ {c:Cn}(ok:c.Ok){now:Int}(a:aI now)(h0:c.st≠0):Said c (c.push now).1 (c.push now).2/\(c.push now).1.pend≠2:=by
 unfold Cn.push;rw[L7 h0];dsimp only
 have k:Said c (if ae c.st=true then c.qb now else(c,[])).1 (if ae c.st=true then c.qb now else(c,[])).2/\(if ae c.st=true then c.qb now else(c,[])).1.Ok:=by
  split
  ·exact⟨si ok a,ok.qb a⟩
  exact⟨.refl c,ok⟩
 generalize (if ae c.st=true then c.qb now else(c,[]))=r at k|-;obtain⟨k,o⟩:=k;unfold Cn.tt;split
 ·refine⟨Said.o6 (k.more (eZ ok) dE r.1.next Z Z (r.1.wk false) (jo r.1 false) ⟨Z,Z,Z,Z⟩) now,?_⟩;dsimp only;rw[(pV _ now).2.1];show(0:Int)≠2
  decide
 rename_i b;refine⟨k.o6 now,?_⟩;dsimp only;rw[(pV _ now).2.1];exact b
def nv (s:Sg):Int:=if s.fin=true then 1 else 0
theorem lm (s:Sg):0<=nv s/\nv s<=1:=by unfold nv;split <;> omega
structure Cs (c d:Cn)(l:List Sg):Prop where
 gi:d.gi=c.gi
 nx:c.next<=d.next
 held:d.held=c.held
 base:d.base=c.base
 lim:d.limit=c.limit
 De:d.largest=c.largest
 shut:d.shut=c.shut
 cf:d.cf=c.cf
 st:d.st=c.st
 go:d.go=c.go
 GQ:∀o,c.next<=o->o<d.next->o<c.last->∃s∈l,∃lo,s.sq=aw c.cf.ki lo/\lo<=o/\o<lo+s.s.length/\lo+s.s.length<=c.limit
 GH:∀s∈l,∃lo,s.sq=aw c.cf.ki lo/\c.gi<=lo/\lo+s.s.length+nv s<=d.next
theorem Cs.last {c d:Cn}{l:List Sg}(h:Cs c d l):d.last=c.last:=by unfold Cn.last;rw[h.held,h.base]
theorem Cs.refl (c:Cn):Cs c c []:=⟨Z,Lb _,Z,Z,Z,Z,Z,Z,Z,Z,fun o h1 h2=>by omega,fun s hs=>by cases hs⟩
theorem vl (held:List UInt8)(base lo hi:Int):((lv held base lo hi).length:Int)=min (max (hi-base) (min (max (lo-base) 0) held.length)) held.length-min (max (lo-base) 0) held.length:=by
 unfold lv;rw[Lt,Lg];omega
theorem iW {c:Cn}{lo hi:Int}(h1:c.base<=lo)(h2:lo<=hi):((c.data lo hi).length:Int)=min hi (max lo c.last)-lo\/(c.last<lo/\((c.data lo hi).length:Int)=0):=by
 have:=vl c.held c.base lo hi;unfold Cn.data Cn.last;omega
theorem Cs.to {c d:Cn}{l:List Sg}(h:Cs c d l)(e:Cn)(h1:e.sc.gi=d.sc.gi)(h2:e.sc.next=d.sc.next)(g:e.held=d.held)(i:e.base=d.base)(j:e.limit=d.limit)(k:e.largest=d.largest)(m:e.shut=d.shut)(n:e.cf=d.cf)(p:e.st=d.st)(f:e.go=d.go):Cs c e l :=
 ⟨h1.trans h.gi,by show _<=e.sc.next;rw[h2];exact h.nx,g.trans h.held,i.trans h.base,j.trans h.lim,k.trans h.De,m.trans h.shut,n.trans h.cf,p.trans h.st,f.trans h.go,fun o a b=>h.GQ o a (by rw[<-show e.next=d.next from h2];exact b),fun s hs=>by rw[show e.next=d.next from h2];exact h.GH s hs⟩
theorem Cs.more {c d:Cn}{l:List Sg}(h:Cs c d l)(e:Cn)(s:Sg)(lo:Int)(hs:s.sq=aw d.cf.ki lo)(h1:c.gi<=lo)(h2:lo+s.s.length+nv s<=e.next)
  (f:e.next=d.next\/(lo=d.next/\d.next<=e.next/\∀o,d.next<=o->o<e.next->o<d.last->o<lo+s.s.length/\lo+s.s.length<=c.limit))
  (k1:e.sc.gi=d.sc.gi)(p:e.held=d.held)(q:e.base=d.base)(r:e.limit=d.limit)(t:e.largest=d.largest)(u:e.shut=d.shut)(w:e.cf=d.cf)(y:e.st=d.st)(j:e.go=d.go):Cs c e (l++[s]):=by
 have k:=h.cf;have z:=h.nx;refine⟨k1.trans h.gi,by rcases f with f | f <;> omega,p.trans h.held,q.trans h.base,r.trans h.lim,t.trans h.De,u.trans h.shut,w.trans h.cf,y.trans h.st,j.trans h.go,fun o a b m=> ?_,fun x i=> ?_⟩
 ·by_cases A:o<d.next
  ·obtain⟨x,i,g⟩:=h.GQ o a A m;exact⟨x,LR _ i,g⟩
  rcases f with f | ⟨E,F,B⟩
  ·omega
  have n:=B o O b (by rw[h.last];exact m);exact⟨s,IK,lo,by rw[hs,k],O,n.1,n.2⟩
 rcases LH.1 i with i | i
 ·obtain⟨lo,g1,C,G⟩:=h.GH x i;exact⟨lo,g1,C,by rcases f with f | f <;> omega⟩
 rw[Ly.1 i];exact⟨lo,by rw[hs,k],h1,h2⟩
theorem kG (c:Cn)(lo hi:Int):(c.nB lo hi).sq=aw c.cf.ki lo/\(c.nB lo hi).s=c.data lo hi:=by
 have h:=gz c { dE with s:=c.data lo hi,fin:=c.shut&&decide (c.last<hi) } lo;exact⟨h.1,h.2.1⟩
theorem oM {c:Cn}{lo hi:Int}(h1:c.base<=lo)(h2:lo<=hi)(b:lo=hi->hi<=c.last):lo+(c.nB lo hi).s.length+nv (c.nB lo hi)<=hi:=by
 have h:=gz c { dE with s:=c.data lo hi,fin:=c.shut&&decide (c.last<hi) } lo;have a:(c.nB lo hi).fin=(c.shut&&decide (c.last<hi)):=h.2.2.1;have d:=iW (c:=c) h1 h2;rw[(kG c lo hi).2];unfold nv;rw[a];split
 ·rename_i g;rw[LD,Lj]at g;have:=g.2;omega
 omega
theorem sj (n:Nat):∀{c0 c:Cn} (l:List Sg),c.Ok->c.base<=max c.gi 1->1<=c.gi->Cs c0 c l->c0.next=c.next->Cs c0 (oi n c l).1 (oi n c l).2/\(oi n c l).1.next=c.next:=by
 induction n with
 | zero=>intro c0 c l _ _ _ h _;exact⟨h,Z⟩
 | succ n d =>
  intro c0 c l ok e f h i;unfold oi;split
  ·cases hl:c.sc.lost c.go with
   | nil=>exact⟨h,Z⟩
   | cons x t =>
    dsimp only;obtain⟨h1,h2,q,u,w,y,j⟩:=rF ok hl;rw[L9 h1];obtain⟨m,f2⟩:=kG c x.1 (aK c.go x).2;have z:=iW (c:=c) (lo:=x.1) (hi:=(aK c.go x).2) O O;have A:x.1+((c.nB x.1 (aK c.go x).2).s.length:Int)<=c.next:=by rw[f2];omega
    have r:=xl c.sc (aK c.go x);have b:(c.sc.ret (aK c.go x)).next=c.next:=r.2;have a:(c.sc.ret (aK c.go x)).gi=c.gi:=r.1;have k:=h.more { c.tq with sc:=c.sc.ret (aK c.go x),tm:=c.tm.rl } (c.nB x.1 (aK c.go x).2) x.1 m (by rw[<-h.gi];exact h2) (by show _<=(c.sc.ret (aK c.go x)).next;rw[b];exact LE (oM O O (fun g=>by omega)) O) (.inl b) r.1 Z Z Z Z Z Z Z Z;obtain⟨o,p⟩:=d (c0:=c0) (c:={ c.tq with sc:=c.sc.ret (aK c.go x),tm:=c.tm.rl }) (l++[c.nB x.1 (aK c.go x).2]) j (by show c.base<=max (c.sc.ret (aK c.go x)).gi 1;rw[a];exact e) (by show 1<=(c.sc.ret (aK c.go x)).gi;rw[a];exact f) k (by show _=(c.sc.ret (aK c.go x)).next;rw[b];exact i);exact⟨o,p.trans b⟩
  exact⟨h,Z⟩
def Au (c:Cn)(n:Int):Prop:=n=c.go\/(n=c.kc/\(c.gi=c.next\/c.shut=true))\/c.largest<=2*n
theorem lQ {c:Cn}(h:0<c.allowed):Au c c.allowed/\c.allowed<=c.kc/\c.allowed<=c.go/\c.next+c.allowed<=c.limit:=by
 unfold Cn.allowed at h|-;split at h
 ·omega
 split at h
 ·omega
 split at h
 ·rename_i h1 h2 a;rw[L7 h1,L7 h2,L9 a];refine⟨?_,O,O,O⟩
  rcases a with a | a | a
  ·exact .inl a
  ·exact .inr (.inl a)
  exact .inr (.inr a)
 omega
theorem fI {c:Cn}(ok:c.Ok){now n:Int}(h0:0<=n)(h1:c.next+n<=c.last):(c.out now n).next=c.ms n/\c.next+n<=c.ms n/\c.ms n<=c.next+n+1/\(c.ms n=c.next+n\/c.next+n=c.last):=by
 have b:=ok.b1;have a:c.next+n<=c.ms n/\c.ms n<=c.next+n+1/\(c.ms n=c.next+n\/c.next+n=c.last):=by unfold Cn.ms;split <;> omega
 refine⟨?_,a⟩;show(c.sc.sent (c.ms n)).next=_;unfold Sc.sent Sc.Do;have e:c.sc.next=c.next:=Z;rw[L9 (Le ⟨O,O⟩)]
theorem vq {c:Cn}(ok:c.Ok)(a:c.base<=c.next){n:Int}(h0:0<=n)(h1:c.next+n<=c.last):((c.kr n).s.length:Int)=n:=by
 have b:=(fI ok (now:=0) h0 h1).2;rw[show(c.kr n).s=c.data c.next (c.ms n)from(kG c _ _).2];have:=iW (c:=c) (lo:=c.next) (hi:=c.ms n) a O;omega
theorem Cs.out {c0 c:Cn}{l:List Sg}(h:Cs c0 c l)(ok:c.Ok)(f:c.base<=c.next)(now:Int){n:Int}(h0:0<=n)(h1:c.next+n<=c.last)(h2:0<n->c.next+n<=c.limit):Cs c0 (c.out now n) (l++[c.kr n]):=by
 obtain⟨e,k,m,p⟩:=fI ok (now:=now) h0 h1;have q:=vq ok f h0 h1;have i:=ok.gi;have r:=tV c.sc (c.ms n);refine h.more (c.out now n) (c.kr n) c.next (kG c _ _).1 (by rw[<-h.gi];exact i.2.1) (by rw[e];exact oM f O (fun g=>by omega)) (.inr ⟨Z,by rw[e];omega,fun o a b d=> ?_⟩) r.1 Z Z Z Z Z Z Z Z;rw[e]at b;have:=h.lim;have j:0<n:=O
 have:=h2 j;omega
structure GI (c0 c:Cn):Prop where
 f:c.next=c0.next\/(∃n,0<n/\Au c0 n/\n<=c0.kc/\c0.next+n<=c.next)\/(c0.next=c0.last/\c.next=c0.last+1)
theorem mx {now:Int}(b:aI now)(n:Nat):∀{c0 c:Cn} (l:List Sg),c.Ok->c.base<=c.next->Cs c0 c l->Cs c0 (nA now n c l).1 (nA now n c l).2/\c.base<=(nA now n c l).1.next:=by
 induction n with
 | zero=>intro c0 c l _ a h;exact⟨h,a⟩
 | succ n d =>
  intro c0 c l ok a h;unfold nA;split
  ·rename_i e;obtain⟨-,m,o,f⟩:=lQ e;have g:c.kc=max 0 (c.last-c.next):=Z;have i:=fI ok (now:=now) (n:=c.allowed) O O;obtain⟨j,k⟩:=d (c0:=c0) (c:=c.out now c.allowed) (l++[c.kr c.allowed]) (ok.out b _) (by rw[i.1];show c.base<=_;omega) (h.out ok a now O O (fun _=>f));exact⟨j,k⟩
  exact⟨h,a⟩
theorem sr {now:Int}(a:aI now)(n:Nat):∀{c:Cn} (l:List Sg),c.Ok->c.base<=c.next->c.next<=(nA now n c l).1.next:=by
 intro c l ok b
 exact(mx a n (c0:=c) (c:=c) [] ok b (Cs.refl c)).1.nx |> fun h=>by
  have e:∀(k:Nat) (c:Cn) (l m:List Sg),(nA now k c l).1=(nA now k c m).1:=by
   intro k
   induction k with
   | zero=>intros;rfl
   | succ k d=>intro c l m;unfold nA;split;exact d _ _ _;rfl
  rw[e n c l []];exact h
theorem vt {now:Int}(a:aI now)(n:Nat){c:Cn}(l:List Sg)(ok:c.Ok)(h:c.base<=c.next):(nA now n c l).1.next=c.next\/(∃m,0<m/\Au c m/\m<=c.kc/\c.next+m<=(nA now n c l).1.next):=by
 cases n with
 | zero=>exact .inl Z
 | succ n =>
  unfold nA;split
  ·rename_i b;obtain⟨d,e,i,j⟩:=lQ b;have f:c.kc=max 0 (c.last-c.next):=Z;have g:=fI ok (now:=now) (n:=c.allowed) O O;have k:=sr a n (l++[c.kr c.allowed]) (ok.out a c.allowed) (by rw[g.1];show c.base<=_;omega);exact .inr ⟨_,b,d,e,O⟩
  exact .inl Z
theorem GI.of {c0 c:Cn}(h:c.next=c0.next\/(∃m,0<m/\Au c0 m/\m<=c0.kc/\c0.next+m<=c.next)):GI c0 c:=⟨h.imp id .inl⟩
structure Fu (c:Cn):Prop where
 u1:1<=c.gi
 bu:c.base<=c.gi
 nl:c.next<=c.last+(if c.shut=true then 1 else 0)
theorem Au.congr {c d:Cn}(h1:d.go=c.go)(h2:d.kc=c.kc)(a:d.gi=c.gi)(b:d.next=c.next)(e:d.shut=c.shut)(f:d.largest=c.largest){n:Int}(h:Au d n):Au c n:=by
 unfold Au at h|-;rw[h1,h2,a,b,e,f]at h;exact h
theorem my {c:Cn}(ok:c.Ok)(so:Fu c){now:Int}(k:aI now):Cs c (c.qb now).1 (c.qb now).2/\GI c (c.qb now).1:=by
 unfold Cn.qb;dsimp only;have x:=ok.gi;have y:=so.bu;obtain⟨a,b⟩:=sj (c.flight.toNat+1) [] ok O so.u1 (Cs.refl c) Z;have j:=Cn.Ok.oi (c.flight.toNat+1) ok [];generalize oi (c.flight.toNat+1) c []=r at a j b|-;obtain⟨d,e⟩:=mx k (r.1.kc.toNat+1) r.2 j (by rw[a.base,b];omega) a;have g:=vt k (r.1.kc.toNat+1) r.2 j (by rw[a.base,b];omega);have l:=Cn.Ok.nA k (r.1.kc.toNat+1) j r.2;have i:r.1.kc=c.kc:=by unfold Cn.kc;rw[a.last,b]
 have o:GI c (nA now (r.1.kc.toNat+1) r.1 r.2).1:=.of (by
  rw[b]at g
  rcases g with g | ⟨m,h1,h2,p,s⟩
  ·exact .inl g
  ·exact .inr ⟨m,h1,h2.congr a.go i a.gi b a.shut a.De,by rw[<-i];exact p,s⟩)
 generalize nA now (r.1.kc.toNat+1) r.1 r.2=q at d g l o e|-;unfold Cb;split
 ·rename_i t;have z:=d.last;have u:q.1.base<=q.1.next:=by rw[d.base,<-a.base];exact e
  obtain⟨A,f2,f3,B⟩:=fI l (now:=now) (n:=0) (Lb _) O;refine⟨d.out l u now (Lb _) O (fun h=>by omega),⟨?_⟩⟩;have w:q.1.ms 0=q.1.next+1:=by unfold Cn.ms;rw[L9 ⟨t.1,O⟩];omega
  rcases o.f with h | ⟨m,h1,h2,p,s⟩ | h
  ·exact .inr (.inr ⟨O,by show(q.1.out now 0).next=_;omega⟩)
  ·exact .inr (.inl ⟨m,h1,h2,p,by show _<=(q.1.out now 0).next;omega⟩)
  omega
 exact⟨d,o⟩
theorem mz (c:Cn)(now:Int):(c.o6 now).sc=c.sc/\(c.o6 now).held=c.held/\(c.o6 now).base=c.base/\(c.o6 now).limit=c.limit/\(c.o6 now).largest=c.largest/\(c.o6 now).shut=c.shut/\(c.o6 now).cf=c.cf/\(c.o6 now).st=c.st/\(c.o6 now).go=c.go:=by
 unfold Cn.o6;split
 ·exact⟨Z,Z,Z,Z,Z,Z,Z,Z,Z⟩
 split <;> exact⟨Z,Z,Z,Z,Z,Z,Z,Z,Z⟩
theorem oN {c:Cn}(ok:c.Ok)(so:Fu c){now:Int}(b:aI now):Cs c (c.push now).1 (c.push now).2/\GI c (c.push now).1:=by
 unfold Cn.push;split
 ·exact⟨.refl c,.of (.inl Z)⟩
 dsimp only
 have k:Cs c (if ae c.st=true then c.qb now else(c,[])).1 (if ae c.st=true then c.qb now else(c,[])).2/\GI c (if ae c.st=true then c.qb now else(c,[])).1/\(if ae c.st=true then c.qb now else(c,[])).1.Ok:=by
  split
  ·exact⟨(my ok so b).1,(my ok so b).2,ok.qb b⟩
  exact⟨.refl c,.of (.inl Z),ok⟩
 generalize (if ae c.st=true then c.qb now else(c,[]))=r at k|-;obtain⟨k,g,o⟩:=k;have i:=o.gi
 have a:∀(d:Cn) (m:List Sg),Cs c d m->GI c d->Cs c (d.o6 now) m/\GI c (d.o6 now):=fun d m h j=>by
  obtain⟨e,l,n,p,q,t,u,w,x⟩:=mz d now;refine⟨h.to _ (by rw[e]) (by rw[e]) l n p q t u w x,⟨?_⟩⟩;rw[show(d.o6 now).next=d.next from by unfold Cn.next;rw[e]];exact j.f
 unfold Cn.tt;split
 ·refine a _ _ ?_ ⟨g.f⟩;have hs:=gz r.1 dE r.1.next;have hz:(r.1.v7 dE r.1.next).s=[]:=hs.2.1;exact k.more (r.1.wk false) _ r.1.next hs.1 (by rw[<-k.gi];exact i.2.1) (by rw[hz,show nv (r.1.v7 dE r.1.next)=0 from by unfold nv;rw[hs.2.2.1];rfl];show r.1.next+((0:Nat):Int)+0<=r.1.next;omega) (.inl Z) Z Z Z Z Z Z Z Z Z
 exact a _ _ k g
structure Ge (c d:Cn):Prop where
 fx:Fx c d
 over:d.over=c.over
 ann:d.ann=c.ann
 pend:d.pend=c.pend
 t8:d.t8=c.t8
 room:d.room=c.room
theorem Ge.refl (c:Cn):Ge c c:=⟨.refl c,Z,Z,Z,Z,Z⟩
theorem Ge.trans {c d e:Cn}(h:Ge c d)(k:Ge d e):Ge c e:=⟨h.fx.trans k.fx,k.over.trans h.over,k.ann.trans h.ann,k.pend.trans h.pend,k.t8.trans h.t8,k.room.trans h.room⟩
structure Hg (c d:Cn)(ack win:Int):Prop where
 gi:d.gi=ack
 next:d.next=c.next
 last:d.last=c.last
 base:d.base<=max c.base ack
 lim:d.limit=max c.limit (ack+win)
 De:d.largest=max c.largest win
 shut:d.shut=c.shut
 cf:d.cf=c.cf
 go:d.go=c.go
 rv:Ge c d
 tries:d.tries=0
 st:d.st=c.st\/((c.gi<=c.last/\c.last<ack)/\gS c.st 7=some d.st)
 dl:c.gi<ack->d.dl=eE
 dk:ack<=c.gi->d.dl=c.dl
 ub:min c.gi c.last<=c.base->min ack c.last<=d.base
theorem kH (c:Cn)(now e:Int):Ge c (c.step now e):=by
 refine⟨cJ c now e,?_,?_,?_,?_,?_⟩ <;> (unfold Cn.step;split;rfl;split <;> rfl)
theorem tv (c:Cn)(now e:Int):(c.step now e).sc=c.sc/\(c.step now e).held=c.held/\(c.step now e).base=c.base/\(c.step now e).limit=c.limit/\(c.step now e).largest=c.largest/\(c.step now e).shut=c.shut/\(c.step now e).cf=c.cf/\(c.step now e).go=c.go/\(c.step now e).tries=c.tries/\(c.step now e).dl=c.dl:=by
 unfold Cn.step;split
 ·exact⟨Z,Z,Z,Z,Z,Z,Z,Z,Z,Z⟩
 split <;> exact⟨Z,Z,Z,Z,Z,Z,Z,Z,Z,Z⟩
theorem Dd (c:Cn)(now e:Int):(c.step now e).st=c.st\/gS c.st e=some (c.step now e).st:=by
 unfold Cn.step;split
 ·exact .inl Z
 rename_i n h;split
 ·exact .inr h
 exact .inr h
theorem yl (c:Cn)(a:Int):(c.drop a).last=c.last/\(c.drop a).base<=max c.base a/\min a c.last<=(c.drop a).base:=by
 have b:0<=dI c.held c.base a/\dI c.held c.base a<=c.held.length/\c.base+dI c.held c.base a<=max c.base a/\min a (c.base+c.held.length)<=c.base+dI c.held c.base a:=by unfold dI;omega
 refine⟨?_,b.2.2.1,b.2.2.2⟩;unfold Cn.drop Cn.last;dsimp only;rw[Lt];omega
theorem ky {c:Cn}(now:Int)(s:Sg){ack:Int}(hu:c.gi<=ack)(h0:0<=ack)(u:ack<=c.next):Hg c (c.i1 now s ack) ack s.win:=by
 obtain⟨w,x⟩:(c.sc.i1 ack (dU c.ke c.next c.cf.ki s.bl)).gi=max c.sc.gi ack/\(c.sc.i1 ack (dU c.ke c.next c.cf.ki s.bl)).next=c.sc.next:=mV c.sc h0 u (xm c.sc c.ke c.cf.ki s.bl);have y:c.sc.gi=c.gi:=Z;unfold Cn.i1;rw[L7 O];dsimp only
 -- behind the report
 have h1:∀a:Cn,a.sc=c.sc.i1 ack (dU c.ke c.next c.cf.ki s.bl)->a.gi=ack/\a.next=c.next:=fun a e=>by
  refine⟨?_,?_⟩
  ·show a.sc.gi=ack;rw[e,w];omega
  show a.sc.next=c.sc.next;rw[e,x]
 have h2:∀a:Cn,a.sc=c.sc.i1 ack (dU c.ke c.next c.cf.ki s.bl)->a.last=c.last->a.base<=max c.base ack->a.limit=c.limit->a.largest=c.largest->a.shut=c.shut->a.cf=c.cf->a.go=c.go->Ge c a->a.tries=0->a.st=c.st->(c.gi<ack->a.dl=eE)->(ack<=c.gi->a.dl=c.dl)->(min c.gi c.last<=c.base->min ack c.last<=a.base) ->
   Hg c (if c.gi<=c.last/\c.last<ack then(if 0<c.Dx ack s.bl/\(a.announce ack s.win).mark<=ack/\(a.announce ack s.win).sc.lost (a.announce ack s.win).go≠[]then { a.announce ack s.win with cg:=(a.announce ack s.win).cg.lost c.flight (a.announce ack s.win).next }else a.announce ack s.win).step now 7 else(if 0<c.Dx ack s.bl/\(a.announce ack s.win).mark<=ack/\(a.announce ack s.win).sc.lost (a.announce ack s.win).go≠[]then { a.announce ack s.win with cg:=(a.announce ack s.win).cg.lost c.flight (a.announce ack s.win).next }else a.announce ack s.win)) ack s.win:=by
  intro a z A B C E F G I J k d l m n
  have K:∀b:Cn,b.sc=a.sc->b.held=a.held->b.base=a.base->b.limit=max a.limit (ack+s.win)->b.largest=max a.largest s.win->b.shut=a.shut->b.cf=a.cf->b.go=a.go->Ge a b->b.tries=a.tries->b.st=a.st->b.dl=a.dl->Hg c (if c.gi<=c.last/\c.last<ack then b.step now 7 else b) ack s.win:=by
   intro b L f2 f3 M N f6 P S T o f i;obtain⟨r,t⟩:=h1 b (L.trans z);have p:b.last=c.last:=by rw[<-A];unfold Cn.last;rw[f2,f3]
   have base:Hg c b ack s.win:=⟨r,t,p,by rw[f3];exact B,by rw[M,C],by rw[N,E],f6.trans F,P.trans G,S.trans I,J.trans T,o.trans k,.inl (f.trans d),fun h=>i.trans (l h),fun h=>i.trans (m h),fun h=>by rw[f3];exact n h⟩;split
   ·rename_i U;obtain⟨g1,V,q,W,X,g6,g7,g8,g9,j⟩:=tv b now 7;refine⟨by show(b.step now 7).sc.gi=_;rw[g1];exact r,by show(b.step now 7).sc.next=_;rw[g1];exact t,by unfold Cn.last at p|-;rw[V,q];exact p,by rw[q];exact base.base,W.trans base.lim,X.trans base.De,g6.trans base.shut,g7.trans base.cf,g8.trans base.go,base.rv.trans (kH b now 7),g9.trans base.tries,?_,fun h=>j.trans (base.dl h),fun h=>j.trans (base.dk h),fun h=>by rw[q];exact base.ub h⟩
    rcases Dd b now 7 with h | h
    ·exact .inl (h.trans (f.trans d))
    ·exact .inr ⟨U,by rw[<-d,<-f];exact h⟩
   ·exact base
  exact K _ J1 J1 J1 J1 J1 J1 J1 J1 (by split <;> exact⟨⟨Z,Z,Z,Z⟩,Z,Z,Z,Z,Z⟩) J1 J1 J1
 by_cases g:c.gi<ack
 ·rw[L9 g];by_cases hz:0<ack-max c.gi 1
  ·rw[L9 hz];obtain⟨d1,d2,d3⟩:=yl { ({ c with tries:=0 }:Cn).report ack s.bl with dl:=eE,tm:=(({ c with tries:=0 }:Cn).report ack s.bl).tm.i1 now ack,cg:=(({ c with tries:=0 }:Cn).report ack s.bl).cg.i1 (ack-max c.gi 1) ack } ack;exact h2 (Cn.drop { ({ c with tries:=0 }:Cn).report ack s.bl with dl:=eE,tm:=(({ c with tries:=0 }:Cn).report ack s.bl).tm.i1 now ack,cg:=(({ c with tries:=0 }:Cn).report ack s.bl).cg.i1 (ack-max c.gi 1) ack } ack) Z d1 d2 Z Z Z Z Z ⟨⟨Z,Z,Z,Z⟩,Z,Z,Z,Z,Z⟩ Z Z (fun _=>rfl) (fun h=>by omega) (fun _=>d3)
  rw[L7 hz];obtain⟨d1,d2,d3⟩:=yl { ({ c with tries:=0 }:Cn).report ack s.bl with dl:=eE,tm:=(({ c with tries:=0 }:Cn).report ack s.bl).tm.i1 now ack } ack;exact h2 (Cn.drop { ({ c with tries:=0 }:Cn).report ack s.bl with dl:=eE,tm:=(({ c with tries:=0 }:Cn).report ack s.bl).tm.i1 now ack } ack) Z d1 d2 Z Z Z Z Z ⟨⟨Z,Z,Z,Z⟩,Z,Z,Z,Z,Z⟩ Z Z (fun _=>rfl) (fun h=>by omega) (fun _=>d3)
 rw[L7 g];exact h2 (({ c with tries:=0 }:Cn).report ack s.bl) Z Z (by show c.base<=_;omega) Z Z Z Z Z ⟨⟨Z,Z,Z,Z⟩,Z,Z,Z,Z,Z⟩ Z Z (fun h=>absurd h g) (fun _=>rfl) (fun h=>by show min ack c.last<=c.base;omega)
structure Fa (c d:Cn):Prop where
 sc:d.sc=c.sc
 held:d.held=c.held
 base:d.base=c.base
 lim:d.limit=c.limit
 De:d.largest=c.largest
 shut:d.shut=c.shut
 cf:d.cf=c.cf
 go:d.go=c.go
 tries:d.tries=c.tries
 dl:d.dl=c.dl
 room:d.room=c.room
 tm:d.tm=c.tm
theorem Fa.refl (c:Cn):Fa c c:=⟨Z,Z,Z,Z,Z,Z,Z,Z,Z,Z,Z,Z⟩
theorem Fa.trans {c d e:Cn}(h:Fa c d)(k:Fa d e):Fa c e:=⟨k.sc.trans h.sc,k.held.trans h.held,k.base.trans h.base,k.lim.trans h.lim,k.De.trans h.De,k.shut.trans h.shut,k.cf.trans h.cf,k.go.trans h.go,k.tries.trans h.tries,k.dl.trans h.dl,k.room.trans h.room,k.tm.trans h.tm⟩
theorem kI (c:Cn)(now e:Int):Fa c (c.step now e):=by
 obtain⟨g1,b,d,f,g,h,i,j,k,a⟩:=tv c now e;exact⟨g1,b,d,f,g,h,i,j,k,a,(kH c now e).room,by unfold Cn.step;split;rfl;split <;> rfl⟩
def Pn (c d:Cn)(now:Int):Prop:=d.pend=2\/(d.pend=1/\c.pend=0/\d.t8= .Ck now 2)
structure IF (c d:Cn)(now off:Int)(s:Sg):Prop where
 has:∀i,d.bx.has i↔c.bx.has i\/(off<=i/\i<off+s.s.length/\i<c.most)
 rd:d.bx.rd=c.bx.rd
 ring:d.bx.ring.length=c.bx.ring.length
 nx:c.bx.nx<=d.bx.nx
 ok:d.bx.Ok
 sd:Fa c d
 A2:d.A2=c.A2
 ended:d.ended=c.ended
 sw:d.sw=c.sw
 over:d.over=c.over
 ann:d.ann=c.ann
 st:d.st=c.st
 pn:s.s=[]/\d.pend=c.pend/\d.t8=c.t8\/Pn c d now
theorem vu {c:Cn}(ok:c.Ok)(m:aV c.st=true){now off:Int}{s:Sg}(h0:0<=off)(h1:off<=1099511627776)(he:c.ended=true->off+s.s.length<=c.sw):IF c (c.store now s off) now off s:=by
 have hs:nO c.ended c.sw off s.s=s.s:=by
  unfold nO
  have e:(if c.ended=true then s.s.take (min (max (c.sw-off) 0) s.s.length).toNat else s.s)=s.s:=by
   split
   ·rename_i k;have:=he k;exact Mf O
   rfl
  rw[e,L7 O];rfl
 unfold Cn.store;split
 ·rename_i hz;refine⟨fun i=>⟨.inl,?_⟩,Z,Z,Lb _,ok.bx,.refl c,Z,Z,Z,Z,Z,Z,.inl ⟨hz,Z,Z⟩⟩;rintro (h | h)
  ·exact h
  rw[hz]at h;simp at h;omega
 rename_i hz
 have l:c.Ca off s.s=c.bx.put off s.s:=by
  unfold Cn.Ca;rw[hs,L7 hz,show max off 0=off by omega]
 obtain⟨p1,b,d,f,g⟩:=Bx.DQ ok.bx s.s h0 h1;have a:c.insert off s.s={ c with bx:=c.bx.put off s.s }:=by unfold Cn.insert;rw[l]
 split
 ·rw[a];unfold Cn.xa;split
  ·exact⟨fun i=>g i,b,d,f,p1,⟨Z,Z,Z,Z,Z,Z,Z,Z,Z,Z,Z,Z⟩,Z,Z,Z,Z,Z,Z,.inr (.inl Z)⟩
  rename_i j;have j:c.pend=0:=by have h:¬c.pend≠0:=j;omega
  exact⟨fun i=>g i,b,d,f,p1,⟨Z,Z,Z,Z,Z,Z,Z,Z,Z,Z,Z,Z⟩,Z,Z,Z,Z,Z,Z,.inr (.inr ⟨Z,j,Z⟩)⟩
 rw[a];exact⟨fun i=>g i,b,d,f,p1,⟨Z,Z,Z,Z,Z,Z,Z,Z,Z,Z,Z,Z⟩,Z,Z,Z,Z,Z,Z,.inr (.inl Z)⟩
structure It (c d:Cn)(e:Int)(s:Sg):Prop where
 bx:d.bx=c.bx
 sd:Fa c d
 A2:d.A2=c.A2
 ann:d.ann=c.ann
 ended:(d.ended=c.ended/\d.sw=c.sw/\(s.fin=true->c.ended=true\/e<c.bx.nx\/aV c.st=false))\/(s.fin=true/\c.ended=false/\d.ended=true/\d.sw=e)
 pn:(d.pend=c.pend/\d.t8=c.t8/\d.over=c.over/\d.st=c.st/\(d.reached=true->c.over=true))\/(d.pend=2/\d.reached=true/\c.over=false/\d.over=true/\(d.st=c.st\/gS c.st 6=some d.st)/\(∀n,gS c.st 6=some n->d.st=n))
theorem ym (c:Cn)(now:Int)(s:Sg)(off:Int):It c (c.tl now s off) (off+s.s.length) s:=by
 unfold Cn.tl;dsimp only
 have f:∀d:Cn,d.bx=c.bx->Fa c d->d.A2=c.A2->d.ann=c.ann->((d.ended=c.ended/\d.sw=c.sw/\(s.fin=true->c.ended=true\/off+s.s.length<c.bx.nx\/aV c.st=false))\/(s.fin=true/\c.ended=false/\d.ended=true/\d.sw=off+s.s.length))->d.pend=c.pend->d.t8=c.t8->d.over=c.over->d.st=c.st ->
   It c (if d.reached=true/\d.over=false then({ d with over:=true }.step now 6).i2 else d) (off+s.s.length) s:=by
  intro d j m o p q u w g i;split
  ·rename_i e;have r:=kH { d with over:=true } now 6;have sd:=kI { d with over:=true } now 6;refine⟨r.fx.bx.trans j,?_,r.fx.A2.trans o,r.ann.trans p,?_,.inr ⟨Z,?_,by rw[<-g];exact e.2,r.over,?_,?_⟩⟩
   ·exact m.trans ⟨sd.sc,sd.held,sd.base,sd.lim,sd.De,sd.shut,sd.cf,sd.go,sd.tries,sd.dl,sd.room,sd.tm⟩
   ·rcases q with⟨a,b,k⟩ | ⟨a,b,k,l⟩
    ·exact .inl ⟨r.fx.ended.trans a,r.fx.sw.trans b,k⟩
    ·exact .inr ⟨a,b,r.fx.ended.trans k,r.fx.sw.trans l⟩
   ·have h1:=e.1;unfold Cn.reached at h1|-;have x:(({ d with over:=true }:Cn).step now 6).i2.bx=d.bx:=r.fx.bx;have y:(({ d with over:=true }:Cn).step now 6).i2.ended=d.ended:=r.fx.ended;have z:(({ d with over:=true }:Cn).step now 6).i2.sw=d.sw:=r.fx.sw;rw[x,y,z];exact h1
   ·have h2:=Dd { d with over:=true } now 6;rw[<-i];exact h2
   ·intro n t;rw[<-i]at t
    have A:(({ d with over:=true }:Cn).step now 6).st=n:=by
     rw[Cn.Dd];show(match gS d.st 6 with | none=>d.st | some n=>n)=n;rw[t]
    exact A
  ·rename_i e;refine⟨j,m,o,p,q,.inl ⟨u,w,g,i,fun h=> ?_⟩⟩;rw[<-g]
   cases ho:d.over with
   | true=>rfl
   | false=>exact absurd ⟨h,ho⟩ e
 split
 ·rename_i e;exact f _ Z ⟨Z,Z,Z,Z,Z,Z,Z,Z,Z,Z,Z,Z⟩ Z Z (.inr ⟨e.1,e.2.2.1,Z,Z⟩) Z Z Z Z
 rename_i e;refine f c Z (.refl c) Z Z (.inl ⟨Z,Z,fun B=> ?_⟩) Z Z Z Z
 cases he:c.ended with
 | true=>exact .inl Z
 | false =>
  cases hc:aV c.st with
  | false=>exact .inr (.inr Z)
  | true =>
   refine .inr (.inl ?_)
   rcases MA (off+s.s.length) c.bx.nx with h | h
   ·exact h
   exact absurd ⟨B,hc,he,h⟩ e
end Go.Proofs.YtcmncipikdpnbaaGreatDoor
