import Derived.Test.YtcmncipikdpnbaaGreatDoorUb17
namespace Go.Proofs.YtcmncipikdpnbaaGreatDoor
section
structure Kx where
 S:List UInt8
 cl:Bool
 ki:Int
 m:Int
 r:Int
 e:Int
structure GS (k:Kx)(s:Sg):Prop where
 te:s.te=true->s.s=[]/\s.fin=false/\s.syn=false
 dat:s.te=false->∃off:Nat,s.sq=aw k.ki off/\off<=k.S.length+2/\(s.syn=true->off=0/\s.s=[]/\s.fin=false)/\(s.syn=false->1<=off)/\(s.s≠[]->s.s=(k.S.drop (off-1)).take s.s.length/\off-1+s.s.length<=k.S.length)/\(s.fin=true->k.cl=true/\off-1+s.s.length=k.S.length)
 len:(s.s.length:Int)<=k.m
 win:s.win<=k.r
 lim:s.s≠[]->aE s.sq (aw k.ki 1)+s.s.length<=k.e+1
structure Gw (k k':Kx):Prop where
 S:(k'.S=k.S/\(k.cl=true->k'.cl=true))\/(k.cl=false/\∃x,k'.S=k.S++x)
 ki:k'.ki=k.ki
 m:k'.m=k.m
 r:k'.r=k.r
 e:k.e<=k'.e
theorem Gw.refl (k:Kx):Gw k k:=⟨.inl ⟨Z,id⟩,Z,Z,Z,Lb _⟩
theorem xk {S x:List UInt8}{a k:Nat}(h:a+k<=S.length):((S++x).drop a).take k=(S.drop a).take k:=by
 rw[List.drop_append_of_le_length O,List.take_append_of_le_length JO]
theorem GS.gw {k f:Kx}{s:Sg}(h:GS k s)(g:Gw k f):GS f s:=by
 have he:=g.e;refine⟨h.te,fun n=> ?_,by rw[g.m];exact h.len,by rw[g.r];exact h.win,fun hs=>by have:=h.lim hs;rw[g.ki];omega⟩;obtain⟨off,h1,h2,i,j,l,b⟩:=h.dat n
 rcases g.S with⟨e,o⟩ | ⟨p,x,e⟩
 ·rw[e,g.ki];exact⟨off,h1,h2,i,j,l,fun a=>⟨o (b a).1,(b a).2⟩⟩
 rw[e,g.ki];refine⟨off,h1,Jb,i,j,fun hs=> ?_,fun a=>by have:=(b a).1;rw[p]at this;cases this⟩;have:=l hs;exact⟨by rw[xk this.2];exact this.1,Jb⟩
structure SI (k:Kx)(c:Cn):Prop where
 b1:1<=c.base
 held:c.held=k.S.drop (c.base-1).toNat
 last:c.last=1+k.S.length
 nl:c.next<=c.last+(if c.shut=true then 1 else 0)
 sh:c.shut=true->k.cl=true
 bu:c.base<=max c.gi 1
 n1:1<=c.next
 ki:c.cf.ki=k.ki
 sm:k.S.length<=1000
 lim:c.limit<=1+k.e
 FP:1<=c.gi->c.gi<=c.limit
 dat:min c.next c.last<=c.limit+1
 go:c.go<=k.m
 room:c.room=k.r
namespace SI
variable {k : Kx} {c d : Cn}
theorem same (h:SI k c)(d:Cn)(a:d.base=c.base)(f:d.held=c.held)(j:d.sc.gi=c.sc.gi)(l:d.sc.next=c.sc.next)(g:d.shut=c.shut)(m:d.cf=c.cf)(b:d.limit=c.limit)(n:d.go=c.go)(o:d.room=c.room):SI k d:=by
 have el:d.last=c.last:=by unfold Cn.last;rw[a,f]
 have e:d.next=c.next:=l;have i:d.gi=c.gi:=j;exact⟨by rw[a];exact h.b1,by rw[a,f];exact h.held,el.trans h.last,by rw[e,el,g];exact h.nl,by rw[g];exact h.sh,by rw[a,i];exact h.bu,by rw[e];exact h.n1,by rw[m];exact h.ki,h.sm,by rw[b];exact h.lim,by rw[i,b];exact h.FP,by rw[e,el,b];exact h.dat,by rw[n];exact h.go,o.trans h.room⟩
theorem len (h:SI k c):c.base+c.held.length=1+k.S.length:=h.last
theorem data (h:SI k c){lo hi:Int}(h1:c.base<=lo)(h2:lo<=c.last)(f:lo<=hi) :
  c.data lo hi=(k.S.drop (lo.toNat-1)).take (c.data lo hi).length/\((c.data lo hi).length:Int)=min hi c.last-lo:=by
 have g:=h.b1;have i:=h.len;have j:c.last=c.base+c.held.length:=Z
 have e:c.data lo hi=(k.S.drop (lo.toNat-1)).take ((min hi c.last-lo).toNat):=by
  unfold Cn.data lv;have a:min (max (lo-c.base) 0) (c.held.length:Int)=lo-c.base:=O
  have b:min (max (hi-c.base) (lo-c.base)) (c.held.length:Int)=min hi c.last-c.base:=O
  rw[a,b,List.drop_take,h.held,List.drop_drop]
  congr 1
  ·omega
  congr 1
  omega
 have el:((c.data lo hi).length:Int)=min hi c.last-lo:=by
  rw[e,Lg,Lt];omega
 refine⟨?_,el⟩;have:(c.data lo hi).length=(min hi c.last-lo).toNat:=O
 rw[this];exact e
end SI
theorem gz (c:Cn)(g:Sg)(off:Int):(c.v7 g off).sq=aw c.cf.ki off/\(c.v7 g off).s=g.s/\(c.v7 g off).fin=g.fin/\(c.v7 g off).syn=g.syn/\(c.v7 g off).te=g.te/\(c.v7 g off).win=(if g.syn=true then c.room else c.raised c.go-c.bx.nx):=by
 unfold Cn.v7;split
 ·rename_i h;refine⟨Z,Z,Z,Z,Z,?_⟩;show(if g.syn=true then c.room else g.win)=c.room;rw[L9 h]
 rename_i h;exact⟨Z,Z,Z,Z,Z,Z⟩
theorem xl (s:Sc)(x:Sp):(s.ret x).gi=s.gi/\(s.ret x).next=s.next:=by unfold Sc.ret;split <;> exact⟨Z,Z⟩
theorem tV (s:Sc)(n:Int):(s.sent n).gi=s.gi/\((s.sent n).next=s.next\/((s.sent n).next=n/\s.next<=n)):=by
 unfold Sc.sent;split
 ·rename_i h;unfold Sc.Do at h;exact⟨Z,.inr ⟨Z,(LN h).1⟩⟩
 exact⟨Z,.inl Z⟩
theorem xm (s:Sc)(k:Bool)(ki:Int)(bl:List Sp):∀x∈dU k s.next ki bl,s.EH x=true:=by
 intro x a;unfold dU at a;have:=(M3.1 a).2;rw[LD,Lj]at this;exact Sc.D7.2 O
theorem mV (s:Sc){a:Int}(h0:0<=a)(h1:a<=s.next){l:List Sp}(b:∀x∈l,s.EH x=true):(s.i1 a l).gi=max s.gi a/\(s.i1 a l).next=s.next:=by
 unfold Sc.i1;rw[L9 (Sc.DF.2 ⟨⟨h0,h1⟩,b⟩)];exact⟨Z,Z⟩
namespace SI
variable {k : Kx} {c d : Cn}
theorem Hl (h:SI k c)(ok:c.Ok)(m:Int):c.raised m-c.bx.nx<=k.r:=by
 have h1:=(ok.raised m).2.2.2;have h2:=ok.bx.Cv;have a:=ok.ring;have b:=h.room;unfold Cn.most at h1;omega
theorem piece (h:SI k c)(ok:c.Ok){lo hi:Int}(h1:c.base<=lo)(h2:lo<=c.last)(i:lo<=hi)(q:min hi c.last-lo<=c.go)(r:min hi c.last<=c.limit+1):GS k (c.nB lo hi):=by
 obtain⟨f,a,j,l,m,n⟩:=gz c { dE with s:=c.data lo hi,fin:=c.shut&&decide (c.last<hi) } lo;have e:c.nB lo hi=c.v7 { dE with s:=c.data lo hi,fin:=c.shut&&decide (c.last<hi) } lo:=Z;obtain⟨d1,d2⟩:=h.data h1 h2 i;have t:=h.b1;have u:=h.last;have o:=h.sm;refine⟨fun g=> ?_,fun _=>⟨lo.toNat,?_,O,fun hy=> ?_,fun _=>by omega,fun _=> ?_,fun b=> ?_⟩,?_,?_,fun _=> ?_⟩
 ·rw[e,m]at g;cases g
 ·rw[e,f,h.ki];congr 1;omega
 ·rw[e,l]at hy;cases hy
 ·rw[e,a];exact⟨d1,IN⟩
 ·rw[e,j]at b;rw[e,a];dsimp only at b|-;rw[LD,Lj]at b;exact⟨h.sh b.1,O⟩
 ·rw[e,a];have:=h.go;dsimp only;omega
 ·rw[e,n];exact h.Hl ok _
 rw[e,f,a,h.ki];have p:aE (aw k.ki lo) (aw k.ki 1)=lo-1:=by unfold aE aw;omega
 have:=h.lim;rw[p];dsimp only;omega
theorem m0 (h:SI k c)(ok:c.Ok):28<=k.m/\1<=k.r:=by have:=ok.go;have:=h.go;have:=ok.room;have:=h.room;omega
theorem ack (h:SI k c)(ok:c.Ok):GS k (c.v7 dE c.next):=by
 obtain⟨f,a,g,i,j,l⟩:=gz c dE c.next;have h1:=h.n1;have h2:=h.nl;have n:=h.last;have o:=h.m0 ok;refine⟨fun b=> ?_,fun _=>⟨c.next.toNat,?_,by split at h2 <;> omega,fun hy=> ?_,fun _=>by omega,fun hs=> ?_,fun e=> ?_⟩,?_,?_,fun hs=> ?_⟩
 ·rw[j]at b;cases b
 ·rw[f,h.ki];congr 1;omega
 ·rw[i]at hy;cases hy
 ·rw[a]at hs;exact absurd Z hs
 ·rw[g]at e;cases e
 ·rw[a];show(0:Int)<=k.m;omega
 ·rw[l];exact h.Hl ok _
 rw[a]at hs;exact absurd Z hs
theorem syn (h:SI k c)(ok:c.Ok):GS k c.x7:=by
 have b:c.x7.sq=aw c.cf.ki 0/\c.x7.s=[]/\c.x7.fin=false/\c.x7.syn=true/\c.x7.te=false/\c.x7.win=c.room:=by
  unfold Cn.x7;split
  ·exact⟨Z,Z,Z,Z,Z,Z⟩
  exact gz c _ 0
 obtain⟨i,a,e,j,l,n⟩:=b;have o:=h.m0 ok;exact⟨fun f=>by(rw[l]at f;cases f),fun _=>⟨0,by rw[i,h.ki];rfl,O,fun _=>⟨Z,a,e⟩,fun hy=>by(rw[j]at hy;cases hy),fun hs=>absurd a hs,fun g=>by(rw[e]at g;cases g)⟩,by rw[a];show(0:Int)<=k.m;omega,by rw[n,h.room];exact Lb _,fun hs=>absurd a hs⟩
theorem reset (h:SI k c)(ok:c.Ok)(n:Int):GS k (c.x3 n):=⟨fun _=>⟨Z,Z,Z⟩,(fun h=>nomatch h),by have:=h.m0 ok;show(0:Int)<=k.m;omega,by have:=h.m0 ok;show(0:Int)<=k.r;omega,fun hs=>absurd Z hs⟩
theorem wk (h:SI k c)(b:Bool):SI k (c.wk b):=by unfold Cn.wk;split <;> exact h.same _ Z Z Z Z Z Z Z Z Z
theorem Cc (h:SI k c):SI k c.Cc:=by unfold Cn.Cc;split <;> exact h.same _ Z Z Z Z Z Z Z Z Z
theorem step (h:SI k c)(now e:Int):SI k (c.step now e):=by
 unfold Cn.step;split
 ·exact h
 split <;> exact h.same _ Z Z Z Z Z Z Z Z Z
theorem finish (h:SI k c)(now e a:Int):SI k (c.finish now e a):=(h.step now e).same _ Z Z Z Z Z Z Z Z Z
theorem DH (h:SI k c)(s:Sc)(h1:c.gi<=s.gi)(h2:c.next<=s.next)(l:s.next<=c.last+(if c.shut=true then 1 else 0))(d:Cn)(a:d.base=c.base)(f:d.held=c.held)(g:d.sc=s)(i:d.shut=c.shut)(m:d.cf=c.cf)(b:d.limit=c.limit)(n:d.go=c.go)(o:d.room=c.room)(p:1<=s.gi->s.gi<=c.limit)(q:min s.next c.last<=c.limit+1):SI k d:=by
 have el:d.last=c.last:=by unfold Cn.last;rw[a,f]
 have e:d.next=s.next:=by unfold Cn.next;rw[g]
 have j:d.gi=s.gi:=by unfold Cn.gi;rw[g]
 have r:=h.bu;have t:=h.n1;have u:=h.FP;exact⟨by rw[a];exact h.b1,by rw[a,f];exact h.held,el.trans h.last,by rw[e,el,i];exact l,by rw[i];exact h.sh,by rw[a,j];omega,by rw[e];omega,by rw[m];exact h.ki,h.sm,by rw[b];exact h.lim,by rw[j,b];exact p,by rw[e,el,b];exact q,by rw[n];exact h.go,o.trans h.room⟩
theorem out (h:SI k c)(ok:c.Ok)(now:Int){n:Int}(h0:0<=n)(h1:c.next+n<=c.last)(h2:n<=c.go)(s:min (c.next+n) c.last<=c.limit+1):SI k (c.out now n)/\(c.out now n).gi=c.gi/\GS k (c.kr n):=by
 have b:(c.wk false).last=c.last/\(c.wk false).sc=c.sc/\(c.wk false).shut=c.shut/\(c.wk false).base=c.base/\(c.wk false).held=c.held/\(c.wk false).cf=c.cf/\(c.wk false).limit=c.limit/\(c.wk false).go=c.go/\(c.wk false).room=c.room:=by unfold Cn.wk;split <;> exact⟨Z,Z,Z,Z,Z,Z,Z,Z,Z⟩
 obtain⟨t,u,e,f,g,i,j,l,m⟩:=b;obtain⟨a,w⟩:=tV c.sc (c.ms n)
 have o:c.next+n<=c.ms n/\c.ms n<=c.last+(if c.shut=true then 1 else 0)/\(c.ms n=c.next+n\/c.next+n=c.last):=by
  unfold Cn.ms;split
  ·rename_i p;rw[L9 p.1];omega
  split <;> omega
 have x:=h.nl;have y:c.sc.next=c.next:=Z;have q:c.sc.gi=c.gi:=Z;have z:=h.bu;have A:=h.n1;have r:=ok.gi;have B:=h.dat;exact⟨h.DH (c.sc.sent (c.ms n)) O O O _ f g Z e i j l m (by rw[a];exact h.FP) O,a,h.piece ok O O O O O⟩
theorem oi (n:Nat):∀{c:Cn} (l:List Sg),c.Ok->SI k c->1<=c.gi->(∀x∈l,GS k x)->SI k (oi n c l).1/\(∀x∈(oi n c l).2,GS k x)/\(oi n c l).1.gi=c.gi:=by
 induction n with
 | zero=>exact fun l _ h _ a=>⟨h,a,Z⟩
 | succ n i =>
  intro c l ok h w a;unfold Go.Proofs.YtcmncipikdpnbaaGreatDoor.oi;split
  ·split
   ·exact⟨h,a,Z⟩
   rename_i x t j;have y:=ok.go;obtain⟨o,z,A,-⟩:=du ok.sc (m:=c.go) O (x:=x) (by rw[j];simp);unfold i7 at o;obtain⟨e,f⟩:=xl c.sc (aK c.go x)
   have b:∀t:Tm,SI k { c.tq with sc:=c.sc.ret (aK c.go x),tm:=t }:=fun t=>(h.wk false).DH (c.sc.ret (aK c.go x)) (by rw[e];unfold Cn.wk Cn.gi;split <;> exact Lb _) (by rw[f];unfold Cn.wk Cn.next;split <;> exact Lb _) (by
    rw[f];have:=h.nl;unfold Cn.wk Cn.last Cn.next at *;split <;> exact this) _ Z Z Z Z Z Z Z Z (by rw[e];have:=h.FP;unfold Cn.wk Cn.gi at *;split <;> exact this) (by
    rw[f];have:=h.dat;unfold Cn.wk Cn.last Cn.next at *;split <;> exact this)
   split
   ·have B:=h.bu;have g:=h.nl;have p:c.sc.gi=c.gi:=Z;have q:c.sc.next=c.next:=Z;have C:=h.dat;have hcut:(aK c.go x).2=min x.2 (x.1+c.go):=Z;obtain⟨r,s,u⟩:=i (l++[c.nB x.1 (aK c.go x).2]) ((ok.tq.DH (ok.sc.ret _)).DY (Tm.A3 ok.tm)) (b _) (by show 1<=(c.sc.ret (aK c.go x)).gi;omega) (Cn.Ok.Dz a (h.piece ok O (by split at g <;> omega) O O O));exact⟨r,s,u.trans e⟩
   exact⟨b _,a,e⟩
  exact⟨h,a,Z⟩
theorem sC (c:Cn):c.allowed<=max c.kc 0/\c.allowed<=max c.go 0/\c.allowed<=max (c.limit-c.next) 0:=by
 unfold Cn.allowed;split
 ·omega
 split
 ·omega
 split <;> omega
theorem nA {now:Int}(b:aI now)(n:Nat):∀{c:Cn} (l:List Sg),c.Ok->SI k c->(∀x∈l,GS k x)->SI k (nA now n c l).1/\(∀x∈(nA now n c l).2,GS k x)/\(nA now n c l).1.gi=c.gi:=by
 induction n with
 | zero=>exact fun l _ h a=>⟨h,a,Z⟩
 | succ n e =>
  intro c l ok h a;unfold Go.Proofs.YtcmncipikdpnbaaGreatDoor.nA;split
  ·rename_i p;have q:=sC c;have r:c.kc=max 0 (c.last-c.next):=Z;obtain⟨f,g,i⟩:=h.out ok now (n:=c.allowed) O O O O;obtain⟨j,m,o⟩:=e (l++[c.kr c.allowed]) (ok.out b _) f (Cn.Ok.Dz a i);exact⟨j,m,o.trans g⟩
  exact⟨h,a,Z⟩
theorem Cb (now:Int)(ok:c.Ok)(h:SI k c)(l:List Sg)(a:∀x∈l,GS k x):SI k (Cb now c l).1/\(∀x∈(Cb now c l).2,GS k x)/\(Cb now c l).1.gi=c.gi:=by
 unfold Go.Proofs.YtcmncipikdpnbaaGreatDoor.Cb;split
 ·rename_i g;have i:=h.dat;have j:=ok.go;obtain⟨b,e,f⟩:=h.out ok now (n:=0) D O O O;exact⟨b,Cn.Ok.Dz a f,e⟩
 exact⟨h,a,Z⟩
theorem qb (h:SI k c)(ok:c.Ok){now:Int}(f:aI now)(p:1<=c.gi):SI k (c.qb now).1/\(∀x∈(c.qb now).2,GS k x)/\(c.qb now).1.gi=c.gi:=by
 have e:=Cn.Ok.oi (c.flight.toNat+1) ok [];obtain⟨g,i,j⟩:=SI.oi (c.flight.toNat+1) [] ok h p Cn.Ok.all_nil;unfold Cn.qb;dsimp only;generalize Go.Proofs.YtcmncipikdpnbaaGreatDoor.oi (c.flight.toNat+1) c []=a at e g i j|-;have l:=Cn.Ok.nA f (a.1.kc.toNat+1) e a.2;obtain⟨m,n,o⟩:=SI.nA f (a.1.kc.toNat+1) a.2 e g i;generalize Go.Proofs.YtcmncipikdpnbaaGreatDoor.nA now (a.1.kc.toNat+1) a.1 a.2=b at l m n o|-;obtain⟨q,r,s⟩:=SI.Cb now l m b.2 n;exact⟨q,r,s.trans (o.trans j)⟩
theorem zx (c:Cn)(b:Bool):(c.wk b).gi=c.gi:=by unfold Cn.wk Cn.gi;split <;> rfl
theorem tt (h:SI k c)(ok:c.Ok)(l:List Sg)(a:∀x∈l,GS k x):SI k (c.tt l).1/\(∀x∈(c.tt l).2,GS k x)/\(c.tt l).1.gi=c.gi:=by
 unfold Cn.tt;split
 ·exact⟨h.wk false,Cn.Ok.Dz a (h.ack ok),zx c false⟩
 exact⟨h,a,Z⟩
theorem o6 (h:SI k c)(now:Int):SI k (c.o6 now)/\(c.o6 now).gi=c.gi:=by
 unfold Cn.o6;split
 ·exact⟨h.same _ Z Z Z Z Z Z Z Z Z,Z⟩
 split
 ·exact⟨h,Z⟩
 exact⟨h.same _ Z Z Z Z Z Z Z Z Z,Z⟩
theorem push (h:SI k c)(ok:c.Ok){now:Int}(g:aI now)(u:3<=c.st->1<=c.gi):SI k (c.push now).1/\(∀x∈(c.push now).2,GS k x)/\(c.push now).1.gi=c.gi:=by
 unfold Cn.push;split
 ·exact⟨h,Cn.Ok.all_nil,Z⟩
 dsimp only
 have b:∀a:Cn×List Sg,a.1.Ok->SI k a.1->(∀x∈a.2,GS k x)->a.1.gi=c.gi->SI k ((a.1.tt a.2).1.o6 now)/\(∀x∈(a.1.tt a.2).2,GS k x)/\((a.1.tt a.2).1.o6 now).gi=c.gi:=by
  intro a h0 h1 h2 i;obtain⟨p1,e,f⟩:=h1.tt h0 a.2 h2;obtain⟨j,l⟩:=p1.o6 now;exact⟨j,e,l.trans (f.trans i)⟩
 split
 ·rename_i hs;obtain⟨p1,e,f⟩:=h.qb ok g (u (by unfold ae at hs;have:=LN hs;omega));exact b _ (ok.qb g) p1 e f
 exact b (c,[]) ok h Cn.Ok.all_nil Z
theorem drop (h:SI k c){a:Int}(ha:a<=max c.gi 1):SI k (c.drop a):=by
 have h1:=h.b1;have h2:=h.bu;have f:=h.len;have e:0<=dI c.held c.base a/\dI c.held c.base a<=c.held.length/\c.base+dI c.held c.base a<=max c.base a:=by unfold dI;omega
 have el:(c.drop a).last=c.last:=by
  unfold Cn.drop Cn.last;dsimp only;rw[Lt];omega
 refine⟨by unfold Cn.drop;dsimp only;omega,?_,el.trans h.last,by rw[el];exact h.nl,h.sh,?_,h.n1,h.ki,h.sm,h.lim,h.FP,by rw[el];exact h.dat,h.go,h.room⟩
 ·have b:∀n:Int,0<=n->c.held.drop n.toNat=k.S.drop (c.base+n-1).toNat:=by
   intro n g;rw[h.held,List.drop_drop]
   congr 1
   omega
  exact b _ e.1
 show c.base+dI c.held c.base a<=max c.gi 1;omega
theorem announce (h:SI k c){a w:Int}(b:c.gi<=a\/c.gi<=c.limit)(hw:0<=w)(he:a+w<=1+k.e):SI k (c.announce a w) :=
 ⟨h.b1,h.held,h.last,h.nl,h.sh,h.bu,h.n1,h.ki,h.sm,by have:=h.lim;unfold Cn.announce;dsimp only;omega,fun _=>by(show c.gi<=max c.limit (a+w);omega),by have:=h.dat;show min c.next c.last<=max c.limit (a+w)+1;omega,h.go,h.room⟩
theorem i1 (h:SI k c)(now:Int)(s:Sg){ack:Int}(h0:0<=ack)(h1:ack<=c.next)(hw:0<=s.win)(he:ack+s.win<=1+k.e):SI k (c.i1 now s ack)/\max c.gi ack<=(c.i1 now s ack).gi:=by
 unfold Cn.i1;split
 ·exact⟨h.same _ Z Z Z Z Z Z Z Z Z,by show _<=c.gi;omega⟩
 rename_i t;obtain⟨i,j⟩:(c.sc.i1 ack (dU c.ke c.next c.cf.ki s.bl)).gi=max c.sc.gi ack/\(c.sc.i1 ack (dU c.ke c.next c.cf.ki s.bl)).next=c.sc.next:=mV c.sc h0 h1 (xm c.sc c.ke c.cf.ki s.bl);have hA:=h.announce (a:=ack) (w:=s.win) (.inl O) hw he;have q:c.sc.gi=c.gi:=Z;have r:c.sc.next=c.next:=Z;have l:SI k (({ c.announce ack s.win with tries:=0 }:Cn).report ack s.bl):=hA.DH (c.sc.i1 ack (dU c.ke c.next c.cf.ki s.bl)) (by show c.sc.gi<=_;rw[i];omega) (by show c.sc.next<=_;rw[j];exact Lb _) (by have:=h.nl;rw[j];exact this) _ Z Z Z Z Z Z Z Z (fun _=>by(rw[i];show _<=max c.limit (ack+s.win);omega)) (by have:=hA.dat;rw[j];exact this)
 have m:(({ c.announce ack s.win with tries:=0 }:Cn).report ack s.bl).gi=ack:=by
  show(c.sc.i1 ack (dU c.ke c.next c.cf.ki s.bl)).gi=ack;rw[i];omega
 dsimp only
 have h2:SI k ((if c.gi<ack then(if 0<ack-max c.gi 1 then({ ({ c with tries:=0 }:Cn).report ack s.bl with dl:=eE,tm:=(({ c with tries:=0 }:Cn).report ack s.bl).tm.i1 now ack,cg:=(({ c with tries:=0 }:Cn).report ack s.bl).cg.i1 (ack-max c.gi 1) ack }:Cn)else { ({ c with tries:=0 }:Cn).report ack s.bl with dl:=eE,tm:=(({ c with tries:=0 }:Cn).report ack s.bl).tm.i1 now ack }).drop ack else({ c with tries:=0 }:Cn).report ack s.bl).announce ack s.win)/\((if c.gi<ack then(if 0<ack-max c.gi 1 then({ ({ c with tries:=0 }:Cn).report ack s.bl with dl:=eE,tm:=(({ c with tries:=0 }:Cn).report ack s.bl).tm.i1 now ack,cg:=(({ c with tries:=0 }:Cn).report ack s.bl).cg.i1 (ack-max c.gi 1) ack }:Cn)else { ({ c with tries:=0 }:Cn).report ack s.bl with dl:=eE,tm:=(({ c with tries:=0 }:Cn).report ack s.bl).tm.i1 now ack }).drop ack else({ c with tries:=0 }:Cn).report ack s.bl).announce ack s.win).gi=ack:=by
  have o:ack<=max (({ c.announce ack s.win with tries:=0 }:Cn).report ack s.bl).gi 1:=O
  split
  ·split
   ·exact⟨(l.same { ({ c.announce ack s.win with tries:=0 }:Cn).report ack s.bl with dl:=eE,tm:=(({ c with tries:=0 }:Cn).report ack s.bl).tm.i1 now ack,cg:=(({ c with tries:=0 }:Cn).report ack s.bl).cg.i1 (ack-max c.gi 1) ack } Z Z Z Z Z Z Z Z Z).drop o,m⟩
   exact⟨(l.same { ({ c.announce ack s.win with tries:=0 }:Cn).report ack s.bl with dl:=eE,tm:=(({ c with tries:=0 }:Cn).report ack s.bl).tm.i1 now ack } Z Z Z Z Z Z Z Z Z).drop o,m⟩
  exact⟨l,m⟩
 generalize (if c.gi<ack then(if 0<ack-max c.gi 1 then({ ({ c with tries:=0 }:Cn).report ack s.bl with dl:=eE,tm:=(({ c with tries:=0 }:Cn).report ack s.bl).tm.i1 now ack,cg:=(({ c with tries:=0 }:Cn).report ack s.bl).cg.i1 (ack-max c.gi 1) ack }:Cn)else { ({ c with tries:=0 }:Cn).report ack s.bl with dl:=eE,tm:=(({ c with tries:=0 }:Cn).report ack s.bl).tm.i1 now ack }).drop ack else({ c with tries:=0 }:Cn).report ack s.bl)=a at h2|-;generalize a.announce ack s.win=b at h2|-;obtain⟨p,f⟩:=h2
 have g:SI k (if 0<c.Dx ack s.bl/\b.mark<=ack/\b.sc.lost b.go≠[]then { b with cg:=b.cg.lost c.flight b.next }else b)/\(if 0<c.Dx ack s.bl/\b.mark<=ack/\b.sc.lost b.go≠[]then { b with cg:=b.cg.lost c.flight b.next }else b).gi=ack:=by
  split
  ·exact⟨p.same _ Z Z Z Z Z Z Z Z Z,f⟩
  exact⟨p,f⟩
 generalize (if 0<c.Dx ack s.bl/\b.mark<=ack/\b.sc.lost b.go≠[]then { b with cg:=b.cg.lost c.flight b.next }else b)=d at g|-;obtain⟨g,u⟩:=g;have n:(d.step now 7).gi=d.gi:=by unfold Cn.step Cn.gi;split;rfl;split <;> rfl
 split
 ·exact⟨g.step now 7,by rw[n];omega⟩
 exact⟨g,O⟩
end SI
def iM (k:Kx)(s:Sg):Prop:=(s.has=true->s.syn=false->aE s.ak (aw k.ki 1)+s.win<=k.e)/\(s.syn=true->s.win<=k.e)
theorem iM.gw {k a:Kx}{s:Sg}(h:iM k s)(g:Gw k a):iM a s:=by
 have he:=g.e;refine⟨fun h1 h2=> ?_,fun h1=>LE (h.2 h1) he⟩;rw[g.ki];exact LE (h.1 h1 h2) he
theorem SI.gw {k a:Kx}{c:Cn}(h:SI k c)(g:Gw k a)(f:a.S.length<=1000)(b:a.S=k.S)(i:a.cl=k.cl):SI a c:=by
 have he:=g.e;exact⟨h.b1,by rw[b];exact h.held,by rw[b];exact h.last,h.nl,by rw[i];exact h.sh,h.bu,h.n1,by rw[g.ki];exact h.ki,f,by have:=h.lim;omega,h.FP,h.dat,by rw[g.m];exact h.go,by rw[g.r];exact h.room⟩
theorem iM.ack {k:Kx}{s:Sg}(h:iM k s)(h1:s.has=true)(h2:s.syn=false)(h0:0<=aE s.ak k.ki):aE s.ak k.ki+s.win<=1+k.e:=by
 have a:=h.1 h1 h2;have b:aE s.ak (aw k.ki 1)=aE s.ak k.ki-1:=by unfold aE aw at *;omega
 omega
end
inductive Rs (cl:Bool):Int->Int->Prop where
 | refl (a:Int):Rs cl a a
 | step {a b c:Int} (e:Int):Rs cl a b->b≠0->(e=5->cl=true)->gS b e=some c->Rs cl a c
theorem Rs.trans {cl:Bool}{a b c:Int}(h:Rs cl a b)(k:Rs cl b c):Rs cl a c:=by
 induction k with
 | refl=>exact h
 | step e _ h0 h5 hs ih=>exact .step e ih h0 h5 hs
theorem Rs.cl {a b:Int}(h:Rs false a b):Rs true a b:=by
 induction h with
 | refl=>exact .refl _
 | step e _ h0 h5 hs ih=>exact .step e ih h0 (fun _=>rfl) hs
theorem Cn.step_shut (c:Cn)(now e:Int):(c.step now e).shut=c.shut:=by
 unfold Cn.step;split
 ·rfl
 split <;> rfl
theorem Cn.Dd (c:Cn)(now e:Int):(c.step now e).st=(match gS c.st e with | none=>c.st | some n=>n):=by
 unfold Cn.step;split
 ·rename_i a;rw[a]
 rename_i n a;rw[a];split <;> rfl
structure Mv (c d:Cn):Prop where
 rs:Rs c.shut c.st d.st
 sh:d.shut=c.shut
theorem Mv.refl (c:Cn):Mv c c:=⟨.refl _,Z⟩
theorem Mv.same (c d:Cn)(h1:d.st=c.st)(h2:d.shut=c.shut):Mv c d:=⟨by rw[h1];exact .refl _,h2⟩
theorem Mv.trans {c d e:Cn}(h:Mv c d)(k:Mv d e):Mv c e:=⟨h.rs.trans (by have:=k.rs;rwa [h.sh]at this),k.sh.trans h.sh⟩
theorem Mv.step (c:Cn)(now e:Int)(h:c.st≠0\/(3<=e/\e<=7))(a:e=5->c.shut=true):Mv c (c.step now e):=by
 refine⟨?_,Cn.step_shut c now e⟩;rw[Cn.Dd]
 cases hx:gS c.st e with
 | none=>exact .refl _
 | some n =>
  refine .step e (.refl _) ?_ a hx
  rcases h with h | h
  ·exact h
  intro h0;unfold gS at hx;rw[L9 h0,L7 O,L7 O]at hx
  cases hx
structure Sh (c:Cn):Prop where
 bd:0<=c.st/\c.st<=9
 op:c.shut=false->c.st=0\/c.st=1\/c.st=2\/c.st=3\/c.st=6
 one:c.st=1->c.shut=false
def behind (cl:Bool)(a:Nat):List Int :=
 match cl,a with
 | _,0=>[0]
 | false,1=>[1,0,2,3,6]
 | false,2=>[2,0,3,6]
 | false,3=>[3,0,6]
 | false,6=>[6,0]
 | _,_=>[0,1,2,3,4,5,6,7,8,9]
def xn:Nat->Int->Int->Int
 | 0,a,b=>if a=b then 0 else 9
 | n+1,a,b=>if a=b then 0 else
  ([1,2,3,4,5,6,7,8,9]:List Int).foldl (fun f e=>match gS a e with
   | some s=>if s≠a then min f (1+xn n s b)else f
   | none=>f) 9
def CO:List Int:=[1,2,3,4,5,6,7,8,9]
theorem BM {a e c:Int}(h:gS a e=some c):e∈CO:=by
 have:1<=e/\e<=9:=by
  unfold gS at h
  (repeat' split at h) <;> first | (cases h;done) | omega
 have:e=1\/e=2\/e=3\/e=4\/e=5\/e=6\/e=7\/e=8\/e=9:=O
 unfold CO
 simpa using this
def Bq (a b:Int):Bool:=decide (xn 3 a b<=3)
theorem zy:∀b∈([0,1,2,3,6]:List Int),Bq 1 b=true/\(b≠0->∀e∈CO,e≠5->(match gS b e with | some c=>decide (c∈([0,1,2,3,6]:List Int)) | none=>true)=true)/\(match gS b 5 with | some c=>Bq 1 c | none=>true)=true:=by decide +kernel
theorem Rs.bd {cl:Bool}{a b:Int}(h:Rs cl a b)(ha:0<=a/\a<=9):0<=b/\b<=9:=by
 induction h with
 | refl=>exact ha
 | step e _ _ _ hs _=>exact ry hs
theorem Rs.closed {cl:Bool}{a b:Int}(h:Rs cl a b)(h0:a=0):b=0:=by
 induction h with
 | refl=>exact h0
 | step e hp hb _ _ ih=>exact absurd ih hb
theorem Rs.one {a b:Int}(h:Rs false a b)(ha:a=1):b∈([0,1,2,3,6]:List Int):=by
 induction h with
 | refl=>subst ha;decide
 | step e hp h0 h5 hs ih =>
  have:=(zy _ ih).2.1 h0 e (BM hs) (fun h=>by have:=h5 h;cases this);rw[hs]at this;exact LN this
theorem hU (c:Cn)(b:Bool):(c.wk b).st=c.st/\(c.wk b).shut=c.shut:=by unfold Cn.wk;split <;> exact⟨Z,Z⟩
theorem xp (n:Nat):∀(c:Cn) (l:List Sg),(oi n c l).1.st=c.st:=by
 induction n with
 | zero=>exact fun c l=>rfl
 | succ n a =>
  intro c l;unfold oi;split
  ·split
   ·rfl
   split
   ·rw[a];exact(hU c false).1
   exact(hU c false).1
  rfl
theorem xq (now:Int)(n:Nat):∀(c:Cn) (l:List Sg),(nA now n c l).1.st=c.st:=by
 induction n with
 | zero=>exact fun c l=>rfl
 | succ n a =>
  intro c l;unfold nA;split
  ·rw[a];exact(hU c false).1
  rfl
theorem dL (c:Cn)(now:Int):(c.push now).1.st=c.st:=by
 unfold Cn.push;split
 ·rfl
 dsimp only
 have b:∀a:Cn×List Sg,a.1.st=c.st->((a.1.tt a.2).1.o6 now).st=c.st:=by
  intro a e
  have h1:(a.1.tt a.2).1.st=a.1.st:=by
   unfold Cn.tt;split
   ·exact(hU _ false).1
   rfl
  have h2:∀d:Cn,(d.o6 now).st=d.st:=by
   intro d;unfold Cn.o6;split
   ·rfl
   split <;> rfl
  rw[h2,h1,e]
 split
 ·refine b _ ?_;unfold Cn.qb;dsimp only
  have f:∀(d:Cn) (l:List Sg),(Cb now d l).1.st=d.st:=by
   intro d l;unfold Cb;split
   ·exact(hU d false).1
   rfl
  rw[f,xq,xp]
 exact b (c,[]) Z
section
def U1 (c:Cn):Prop:=3<=c.st->1<=c.gi
def jQ (k:Kx)(r:Cn×List Sg):Prop:=SI k r.1/\(∀x∈r.2,GS k x)/\U1 r.1
theorem pI (c:Cn)(now e:Int):(c.step now e).gi=c.gi:=by unfold Cn.step Cn.gi;split;rfl;split <;> rfl
theorem dA (c:Cn)(now a:Int){e:Int}(he:e=8\/e=9):(c.finish now e a).st=0:=by
 show(c.step now e).st=0;rw[Cn.Dd];unfold gS;by_cases h0:c.st=0
 ·rw[L9 h0]
  rcases he with rfl | rfl <;> exact h0
 rw[L7 h0,L9 he]
theorem U1.zero {c:Cn}(h:c.st=0):U1 c:=fun a=>by omega
theorem qh (c:Cn)(now:Int)(s:Sg)(off:Int):(c.store now s off).sc=c.sc:=by
 unfold Cn.store;split
 ·rfl
 split
 ·split
  ·unfold Cn.xa;split <;> rfl
  rfl
 rfl
theorem tW (c:Cn)(now:Int)(s:Sg)(off:Int):(c.tl now s off).gi=c.gi:=by
 unfold Cn.tl;dsimp only;have h1:(if s.fin=true/\aV c.st=true/\c.ended=false/\c.bx.nx<=off+s.s.length then { c with ended:=true,sw:=off+s.s.length }else c).gi=c.gi:=J1
 generalize (if s.fin=true/\aV c.st=true/\c.ended=false/\c.bx.nx<=off+s.s.length then { c with ended:=true,sw:=off+s.s.length }else c)=d at h1|-;split
 ·rw[<-h1];exact pI { d with over:=true } now 6
 exact h1
namespace SI
variable {k : Kx} {c d : Cn}
theorem i2 (h:SI k c):SI k c.i2:=h.same _ Z Z Z Z Z Z Z Z Z
theorem xa (h:SI k c)(now:Int):SI k (c.xa now):=by unfold Cn.xa;split <;> exact h.same _ Z Z Z Z Z Z Z Z Z
theorem insert (h:SI k c)(off:Int)(s:List UInt8):SI k (c.insert off s):=h.same _ Z Z Z Z Z Z Z Z Z
theorem store (h:SI k c)(now:Int)(s:Sg)(off:Int):SI k (c.store now s off):=by
 unfold Cn.store;split
 ·exact h
 split
 ·split
  ·exact(h.insert _ _).xa now
  exact(h.insert _ _).i2
 exact h.i2
theorem tl (h:SI k c)(now:Int)(s:Sg)(off:Int):SI k (c.tl now s off):=by
 unfold Cn.tl;dsimp only
 have h1:SI k (if s.fin=true/\aV c.st=true/\c.ended=false/\c.bx.nx<=off+s.s.length then { c with ended:=true,sw:=off+s.s.length }else c):=by
  split
  ·exact h.same _ Z Z Z Z Z Z Z Z Z
  exact h
 generalize (if s.fin=true/\aV c.st=true/\c.ended=false/\c.bx.nx<=off+s.s.length then { c with ended:=true,sw:=off+s.s.length }else c)=d at h1|-;split
 ·exact((h1.same { d with over:=true } Z Z Z Z Z Z Z Z Z).step now 6).i2
 exact h1
theorem DJ (h:SI k c)(ok:c.Ok){now:Int}(a:aI now)(u:U1 c):jQ k (c.push now):=by
 obtain⟨h1,h2,b⟩:=h.push ok a u;exact⟨h1,h2,fun hs=>by rw[b];rw[dL]at hs;exact u hs⟩
theorem tail (h:SI k c)(ok:c.Ok){now:Int}(a:aI now){s:Sg}(hs:s.Ok){off ack:Int}(b: -2147483648<=off/\off<=2147483647)(h0:0<=ack)(h1:ack<=c.next)(ha:ack<=2147483647)(g:1<=max c.gi ack)(he:ack+s.win<=1+k.e) :
  jQ k ((((c.i1 now s ack).store now s off).tl now s off).push now):=by
 obtain⟨f,i⟩:=h.i1 now s h0 h1 hs.win.1 he;refine SI.DJ (SI.tl (SI.store f now s off) now s off) (ok.tail a hs b ha) a (fun _=> ?_);rw[tW];show 1<=((c.i1 now s ack).store now s off).sc.gi;rw[qh];show 1<=(c.i1 now s ack).gi;omega
theorem process (h:SI k c)(ok:c.Ok){now:Int}(b:aI now){s:Sg}(hs:s.Ok){off:Int}(g: -2147483648<=off/\off<=2147483647)(u:U1 c)(t:2<=c.st)(j:iM k s)(l:s.has=true)(hy:s.syn=false):jQ k (c.process now s off):=by
 have a:=h.ki;have i:=bP s.ak c.cf.ki;have p:=ok.gi;unfold Cn.process;dsimp only;split
 ·rename_i h2;have f:=ok.tr2 O;split
  ·exact⟨h,Cn.Ok.Dk (h.reset ok _),u⟩
  rename_i w;have m:=ok.step b f 4;have n:∀e,(c.step now e).next=c.next:=fun e=>by unfold Cn.step Cn.next;split;rfl;split <;> rfl
  split
  ·refine SI.tail ((h.step now 4).step now 5) (m.step b (by rw[Cn.Dc];exact f) 5) b hs g O ?_ i.2 O Ke
   have:((c.step now 4).step now 5).next=(c.step now 4).next:=by
    show(Cn.step (c.step now 4) now 5).sc.next=(c.step now 4).sc.next;generalize c.step now 4=d;unfold Cn.step;split
    ·rfl
    split <;> rfl
   rw[this,n];omega
  exact SI.tail (h.step now 4) m b hs g O (by rw[n];omega) i.2 O Ke
 rename_i h2;split
 ·exact h.i2.DJ ok.i2 b u
 have q:=u O;by_cases r:aE s.ak c.cf.ki<0
 ·have e:c.i1 now s (aE s.ak c.cf.ki)={ c with tries:=0 }:=by unfold Cn.i1;rw[L9 O]
  have o:=ok.tail b hs g i.2;rw[e]at o|-;refine SI.DJ (SI.tl (SI.store (h.same { c with tries:=0 } Z Z Z Z Z Z Z Z Z) now s off) now s off) o b (fun _=> ?_);rw[tW];show 1<=(Cn.store { c with tries:=0 } now s off).sc.gi;rw[qh];exact q
 exact h.tail ok b hs g O O i.2 O Ke
theorem stray (h:SI k c)(ok:c.Ok){now:Int}(j:aI now){s:Sg}(hs:s.Ok)(u:U1 c)(m:iM k s):jQ k (c.stray now s):=by
 have e:=h.ki;have q:=bP s.ak c.cf.ki;have n:=ok.gi;unfold Cn.stray;dsimp only
 have h1:Cn.Ok (if bf c.st=true/\s.has=true/\s.syn=false/\c.gi<=aE s.ak c.cf.ki/\aE s.ak c.cf.ki<=c.next then c.i1 now s (aE s.ak c.cf.ki)else c)/\SI k (if bf c.st=true/\s.has=true/\s.syn=false/\c.gi<=aE s.ak c.cf.ki/\aE s.ak c.cf.ki<=c.next then c.i1 now s (aE s.ak c.cf.ki)else c)/\U1 (if bf c.st=true/\s.has=true/\s.syn=false/\c.gi<=aE s.ak c.cf.ki/\aE s.ak c.cf.ki<=c.next then c.i1 now s (aE s.ak c.cf.ki)else c):=by
  split
  ·rename_i l;have o:3<=c.st:=by have:=l.1;unfold bf at this;have:=LN this;omega
   have r:=u o;obtain⟨p,t⟩:=h.i1 now s (ack:=aE s.ak c.cf.ki) O l.2.2.2.2 hs.win.1 (by rw[e];exact m.ack l.2.1 l.2.2.1 (by rw[<-e];omega));exact⟨(ok.i1 j hs O).1,p,fun _=>by omega⟩
  exact⟨ok,h,u⟩
 generalize (if bf c.st=true/\s.has=true/\s.syn=false/\c.gi<=aE s.ak c.cf.ki/\aE s.ak c.cf.ki<=c.next then c.i1 now s (aE s.ak c.cf.ki)else c)=a at h1|-;obtain⟨f,g,i⟩:=h1
 have h2:Cn.Ok (if a.st=9/\s.fin=true then { a with per:=.Ck now 60 }else a)/\SI k (if a.st=9/\s.fin=true then { a with per:=.Ck now 60 }else a)/\U1 (if a.st=9/\s.fin=true then { a with per:=.Ck now 60 }else a):=by
  split
  ·exact⟨{ f with per:=Al.Cz j D D },g.same _ Z Z Z Z Z Z Z Z Z,i⟩
  exact⟨f,g,i⟩
 generalize (if a.st=9/\s.fin=true then { a with per:=.Ck now 60 }else a)=b at h2|-;obtain⟨f,g,i⟩:=h2;split
 ·exact g.i2.DJ f.i2 j i
 exact g.DJ f j i
theorem meet (h:SI k c){s:Sg}(hs:s.Ok)(hy:s.syn=true)(e:iM k s):SI k (c.meet s):=by
 have h1:=h.announce (a:=1) (w:=s.win) (by have:=h.FP;rcases(show c.gi<=1\/1<=c.gi by omega)with g | g;exact .inl g;exact .inr (this g)) hs.win.1 (by have:=e.2 hy;omega);have f:=h.go;have b:SI k { c.announce 1 s.win with A2:=s.sq,ke:=s.ke }:=h1.same _ Z Z Z Z Z Z Z Z Z;exact⟨b.b1,b.held,b.last,b.nl,b.sh,b.bu,b.n1,b.ki,b.sm,b.lim,b.FP,b.dat,by show min c.go _<=k.m;omega,b.room⟩
theorem Ct (h:SI k c)(ok:c.Ok){now:Int}(g:aI now){s:Sg}(hs:s.Ok)(h1:c.st=1)(q:iM k s):jQ k (c.Ct now s):=by
 have i:U1 c:=fun p=>by omega
 have r:=ok.gi;unfold Cn.Ct;split
 ·split
  ·exact⟨h,Cn.Ok.all_nil,i⟩
  exact⟨h,Cn.Ok.Dk (h.reset ok _),i⟩
 split
 ·exact⟨h.finish _ _ _,Cn.Ok.all_nil,.zero (dA c now _ (.inl Z))⟩
 split
 ·exact⟨h,Cn.Ok.all_nil,i⟩
 rename_i hy;have hy:s.syn=true:=Jt
 have f:=(ok.meet hs hy).DM;have b:SI k { c.meet s with tries:=0 }:=(h.meet hs hy q).same _ Z Z Z Z Z Z Z Z Z;have j:(c.meet s).st=1:=h1;dsimp only;split
 ·have e:(Cn.step { c.meet s with tries:=0 } now 2).st=2:=by
   rw[Cn.Dd];show(match gS (c.meet s).st 2 with | none=>(c.meet s).st | some n=>n)=2;rw[j];rfl
  have t:∀x:Cn,x.Cc.st=x.st:=fun x=>by unfold Cn.Cc;split <;> rfl
  exact⟨(b.step now 2).Cc,Cn.Ok.Dk ((b.step now 2).syn (f.step g J4 2)),fun p=>by rw[t,e]at p;omega⟩
 obtain⟨m,o⟩:=mV (c.meet s).sc (a:=1) D (by show 1<=c.next;exact h.n1) (l:=[]) (fun x u=>nomatch u)
 have hA:SI k { ({ c.meet s with tries:=0 }:Cn)with sc:=(c.meet s).sc.i1 1 [],tm:=(c.meet s).tm.i1 now 1 } :=
  b.DH ((c.meet s).sc.i1 1 []) (by show c.sc.gi<=_;rw[m];show c.sc.gi<=max c.sc.gi 1;omega) (by show c.sc.next<=_;rw[o];exact Lb _) (by rw[o];exact h.nl) _ Z Z Z Z Z Z Z Z (fun _=>by(rw[m];have:=b.lim;have w:(c.meet s).limit=max c.limit (1+s.win):=Z;have:=hs.win;have:=h.FP;show max c.sc.gi 1<=(c.meet s).limit;have y:c.sc.gi=c.gi:=Z;omega)) (by rw[o];exact b.dat)
 refine SI.DJ (((hA.step now 3).same _ Z Z Z Z Z Z Z Z rfl:SI k { Cn.step { ({ c.meet s with tries:=0 }:Cn)with sc:=(c.meet s).sc.i1 1 [],tm:=(c.meet s).tm.i1 now 1 } now 3 with dl:=eE }).i2) (Cn.Ok.EJ (Cn.Ok.step ((f.DH (f.sc.i1 1 [])).DY (Tm.Ce f.tm now 1)) g J4 3) dx).i2 g (fun _=> ?_);show 1<=(Cn.step { ({ c.meet s with tries:=0 }:Cn)with sc:=(c.meet s).sc.i1 1 [],tm:=(c.meet s).tm.i1 now 1 } now 3).gi;rw[pI];show 1<=((c.meet s).sc.i1 1 []).gi;rw[m];show 1<=max c.sc.gi 1;omega
theorem receive (h:SI k c)(ok:c.Ok){now:Int}(a:aI now){s:Sg}(hs:s.Ok)(u:U1 c)(b:iM k s):jQ k (c.receive now s):=by
 have f:=bP s.sq (aw c.A2 1);unfold Cn.receive;split
 ·exact⟨h,Cn.Ok.all_nil,u⟩
 rename_i h0;split
 ·exact⟨h,Cn.Ok.all_nil,u⟩
 split
 ·rename_i h1;exact h.Ct ok a hs h1 b
 rename_i h1;have g:=ok.st;unfold Cn.Cw;dsimp only;split
 ·exact⟨h.finish _ _ _,Cn.Ok.all_nil,.zero (dA c now _ (.inl Z))⟩
 split
 ·exact⟨h,Cn.Ok.all_nil,u⟩
 split
 ·exact h.stray ok a hs u b
 split
 ·exact h.i2.DJ ok.i2 a u
 split
 ·exact⟨h,Cn.Ok.all_nil,u⟩
 rename_i e i;exact h.process ok a hs f u O b P9 (by cases j:s.syn with | false=>rfl | true=>exact absurd (.inr j) e)
theorem sg (h:SI k c)(ok:c.Ok){now:Int}(e:aI now)(u:U1 c)(l:List Sg)(f:∀x∈l,GS k x):jQ k (c.sg now l):=by
 have a:∀{d:Cn},jQ k (d.push now)->jQ k ((d.push now).1,l++(d.push now).2):=fun k=>⟨k.1,fun x b=>by
  rcases LH.1 b with b | b
  ·exact f x b
  exact k.2.1 x b,k.2.2⟩
 unfold Cn.sg;dsimp only;split
 ·exact a (h.i2.DJ ok.i2 e u)
 exact a (h.DJ ok e u)
theorem expire (h:SI k c)(ok:c.Ok)(u:U1 c)(a:3<=c.st):jQ k c.expire:=by
 have f:=ok.gi;unfold Cn.expire;split
 ·exact⟨h.same _ Z Z Z Z Z Z Z Z Z,Cn.Ok.all_nil,u⟩
 split
 ·exact⟨h,Cn.Ok.all_nil,u⟩
 rename_i h0;have m:=ok.go;rename_i g;have o:c.kc=max 0 (c.last-c.next):=Z;have p:c.flight=c.next-c.gi:=Z;have q:=h.FP (u a);obtain⟨i,j,l⟩:=h.out ok 0 (n:=max 1 (min (min c.go (c.limit-c.next)) c.kc)) O O O O;refine⟨i.same _ Z Z Z Z Z Z Z Z Z,Cn.Ok.Dk l,fun a=> ?_⟩;have b:(c.qa (max 1 (min (min c.go (c.limit-c.next)) c.kc))).st=c.st:=(hU c false).1;rw[b]at a;have e:(c.qa (max 1 (min (min c.go (c.limit-c.next)) c.kc))).gi=c.gi:=j;rw[e];exact u a
theorem tick (h:SI k c)(ok:c.Ok){now:Int}(e:aI now)(u:U1 c):jQ k (c.tick now):=by
 unfold Cn.tick;split
 ·exact⟨h,Cn.Ok.all_nil,u⟩
 rename_i h0;have l:=ok.tr2 h0;split
 ·exact⟨h.finish _ _ _,Cn.Ok.all_nil,.zero (dA c now _ (.inr Z))⟩
 split
 ·dsimp only;split
  ·exact⟨(h.same { c with tries:=c.tries+1 } Z Z Z Z Z Z Z Z Z).finish _ _ _,Cn.Ok.all_nil,.zero (dA _ now _ (.inr Z))⟩
  rename_i m
  have f:0<=c.tm.rl.kf.value/\c.tm.rl.kf.value<=1000:=by
   have h1:=c.tm.rl.kf.Dy;have h2:(0:Int)<=c.tm.rl.kf.base*2 ^ c.tm.rl.kf.backs.toNat:=MV O (Ni D);unfold Tm.value;omega
  have he:Cn.Ok { c with tries:=c.tries+1,tm:=c.tm.rl.kf,dl:=.Ck now c.tm.rl.kf.value } :=
   { ok with tr:=by have:=ok.tr;dsimp only;omega,tr2:=fun _=>by dsimp only;omega,tm:=Tm.D4 (Tm.A3 ok.tm),dl:=Al.Cz e f.1 f.2 }
  have hi:SI k { c with tries:=c.tries+1,tm:=c.tm.rl.kf,dl:=.Ck now c.tm.rl.kf.value }:=h.same _ Z Z Z Z Z Z Z Z Z;split
  ·rename_i a;obtain⟨i,b,j⟩:=hi.expire he u (by unfold bf at a;have:=LN a;exact this.1);exact i.sg he.expire e j _ b
  exact⟨hi.Cc,Cn.Ok.Dk (hi.syn he),fun g=>by
   have b:∀x:Cn,x.Cc.st=x.st/\x.Cc.gi=x.gi:=fun x=>by unfold Cn.Cc;split <;> exact⟨Z,Z⟩
   rw[(b _).2];rw[(b _).1]at g;exact u g⟩
 exact h.sg ok e u _ Cn.Ok.all_nil
theorem send (h:SI k c)(ok:c.Ok){now:Int}(j:aI now)(u:U1 c)(x:List UInt8)(m:c.last+x.length<=1073741824)(a:c.refusal=0)(b:(k.S++x.take (c.pd x).toNat).length<=1000):jQ { k with S:=k.S++x.take (c.pd x).toNat } (c.send now x):=by
 unfold Cn.send;rw[L7 O]
 have e:c.shut=false:=by
  unfold Cn.refusal at a;split at a
  ·unfold Cn.failure at a;split at a <;> omega
  split at a
  ·rename_i l;exact l.1
  cases a
 have n:=h.len;have o:=h.last;have f:=h.b1;have g:=h.nl;rw[e,L7 D]at g;have el:Cn.last { c with held:=c.held++x.take (c.pd x).toNat }=c.last+(x.take (c.pd x).toNat).length:=by unfold Cn.last;dsimp only;rw[Lc];omega
 have p:=h.dat;have i:(c.base-1).toNat<=k.S.length:=O
 have k:SI { k with S:=k.S++x.take (c.pd x).toNat } { c with held:=c.held++x.take (c.pd x).toNat }:=by
  refine⟨f,?_,?_,?_,h.sh,h.bu,h.n1,h.ki,b,h.lim,h.FP,by rw[el];show min c.next _<=c.limit+1;omega,h.go,h.room⟩
  ·show c.held++_=_;rw[h.held,List.drop_append_of_le_length i]
  ·rw[el,Lc];omega
  rw[el];show c.next<=_;omega
 refine SI.DJ k { ok with b1:= ?_ } j u;rw[el,Lg];omega
theorem recv (h:SI k c)(ok:c.Ok){now:Int}(b:aI now)(u:U1 c)(n:Int):jQ k (c.recv now n):=by
 have a:SI k { c with bx:=c.bx.take n }:=h.same _ Z Z Z Z Z Z Z Z Z;unfold Cn.recv;split
 ·exact⟨h,Cn.Ok.all_nil,u⟩
 dsimp only;split
 ·exact⟨a,Cn.Ok.all_nil,u⟩
 split
 ·exact⟨a,Cn.Ok.all_nil,u⟩
 exact a.i2.DJ (ok.take n).i2 b u
theorem close (h:SI k c)(ok:c.Ok){now:Int}(a:aI now)(u:U1 c)(he:c.z8=0):jQ { k with cl:=true } (c.close now):=by
 have g:¬(c.st=0\/c.shut=true):=fun i=>by unfold Cn.z8 at he;rw[L9 i]at he;cases he
 have hs:Cn.Ok { c with shut:=true }:={ ok with };have h0:c.st≠0:=fun e=>g (.inl e);have b:=h.nl;have f:SI { k with cl:=true } { c with shut:=true }:=⟨h.b1,h.held,h.last,by show c.next<=c.last+_;split at b <;> simp <;> omega,fun _=>rfl,h.bu,h.n1,h.ki,h.sm,h.lim,h.FP,h.dat,h.go,h.room⟩;unfold Cn.close;rw[L7 g];dsimp only;split
 ·rename_i h1;refine⟨f.finish _ _ _,Cn.Ok.all_nil,.zero ?_⟩;show(Cn.step { c with shut:=true } now 5).st=0;rw[Cn.Dd];dsimp only;rw[h1];rfl
 split
 ·exact f.DJ hs a u
 rename_i h1 h2;have j:=ok.st;refine SI.DJ (f.step now 5) (hs.step a (ok.tr2 h0) _) a (fun _=> ?_);rw[pI];exact u (by show 3<=c.st;omega)
end SI
structure Fx (c d:Cn):Prop where
 bx:d.bx=c.bx
 A2:d.A2=c.A2
 ended:d.ended=c.ended
 sw:d.sw=c.sw
theorem Fx.refl (c:Cn):Fx c c:=⟨Z,Z,Z,Z⟩
theorem Fx.trans {c d e:Cn}(h:Fx c d)(k:Fx d e):Fx c e:=⟨k.bx.trans h.bx,k.A2.trans h.A2,k.ended.trans h.ended,k.sw.trans h.sw⟩
theorem jo (c:Cn)(b:Bool):Fx c (c.wk b):=by unfold Cn.wk;split <;> exact⟨Z,Z,Z,Z⟩
theorem pJ (c:Cn):Fx c c.Cc:=by unfold Cn.Cc;split <;> exact⟨Z,Z,Z,Z⟩
theorem cJ (c:Cn)(now e:Int):Fx c (c.step now e):=by unfold Cn.step;split;exact .refl c;split <;> exact⟨Z,Z,Z,Z⟩
theorem cU (c:Cn)(now e a:Int):Fx c (c.finish now e a):=(cJ c now e).trans ⟨Z,Z,Z,Z⟩
theorem ic (c:Cn)(n:Int):Fx c (c.qa n):=(jo c false).trans ⟨Z,Z,Z,Z⟩
theorem sD (c:Cn)(now n:Int):Fx c (c.out now n):=(ic c n).trans ⟨Z,Z,Z,Z⟩
theorem xt (n:Nat):∀(c:Cn) (l:List Sg),Fx c (oi n c l).1:=by
 induction n with
 | zero=>exact fun c l=>.refl c
 | succ n a =>
  intro c l;unfold oi;split
  ·split
   ·exact .refl c
   split
   ·refine Fx.trans ?_ (a _ _);exact(jo c false).trans ⟨Z,Z,Z,Z⟩
   exact(jo c false).trans ⟨Z,Z,Z,Z⟩
  exact .refl c
theorem xu (now:Int)(n:Nat):∀(c:Cn) (l:List Sg),Fx c (nA now n c l).1:=by
 induction n with
 | zero=>exact fun c l=>.refl c
 | succ n a =>
  intro c l;unfold nA;split
  ·exact(sD c now _).trans (a _ _)
  exact .refl c
theorem zz (now:Int)(c:Cn)(l:List Sg):Fx c (Cb now c l).1:=by
 unfold Cb;split
 ·exact sD c now 0
 exact .refl c
theorem xw (c:Cn)(now:Int):Fx c (c.qb now).1:=by
 unfold Cn.qb;exact((xt _ c []).trans (xu now _ _ _)).trans (zz now _ _)
theorem qi (c:Cn)(l:List Sg):Fx c (c.tt l).1:=by
 unfold Cn.tt;split
 ·exact jo c false
 exact .refl c
theorem mW (c:Cn)(now:Int):Fx c (c.o6 now):=by
 unfold Cn.o6;split
 ·exact⟨Z,Z,Z,Z⟩
 split <;> exact⟨Z,Z,Z,Z⟩
theorem bF (c:Cn)(now:Int):Fx c (c.push now).1:=by
 unfold Cn.push;split
 ·exact .refl c
 dsimp only;split
 ·exact((xw c now).trans (qi _ _)).trans (mW _ now)
 exact(qi c _).trans (mW _ now)
theorem eP (c:Cn)(now:Int)(s:Sg)(ack:Int):Fx c (c.i1 now s ack):=by
 unfold Cn.i1;split
 ·exact⟨Z,Z,Z,Z⟩
 dsimp only
 have h1:Fx c (if c.gi<ack then(if 0<ack-max c.gi 1 then({ ({ c with tries:=0 }:Cn).report ack s.bl with dl:=eE,tm:=(({ c with tries:=0 }:Cn).report ack s.bl).tm.i1 now ack,cg:=(({ c with tries:=0 }:Cn).report ack s.bl).cg.i1 (ack-max c.gi 1) ack }:Cn)else { ({ c with tries:=0 }:Cn).report ack s.bl with dl:=eE,tm:=(({ c with tries:=0 }:Cn).report ack s.bl).tm.i1 now ack }).drop ack else({ c with tries:=0 }:Cn).report ack s.bl):=by
  split
  ·split <;> exact⟨Z,Z,Z,Z⟩
  exact⟨Z,Z,Z,Z⟩
 generalize (if c.gi<ack then(if 0<ack-max c.gi 1 then({ ({ c with tries:=0 }:Cn).report ack s.bl with dl:=eE,tm:=(({ c with tries:=0 }:Cn).report ack s.bl).tm.i1 now ack,cg:=(({ c with tries:=0 }:Cn).report ack s.bl).cg.i1 (ack-max c.gi 1) ack }:Cn)else { ({ c with tries:=0 }:Cn).report ack s.bl with dl:=eE,tm:=(({ c with tries:=0 }:Cn).report ack s.bl).tm.i1 now ack }).drop ack else({ c with tries:=0 }:Cn).report ack s.bl)=a at h1|-
 have h2:Fx c (if 0<c.Dx ack s.bl/\(a.announce ack s.win).mark<=ack/\(a.announce ack s.win).sc.lost (a.announce ack s.win).go≠[]then { a.announce ack s.win with cg:=(a.announce ack s.win).cg.lost c.flight (a.announce ack s.win).next }else a.announce ack s.win):=by
  split <;> exact h1.trans ⟨Z,Z,Z,Z⟩
 generalize (if 0<c.Dx ack s.bl/\(a.announce ack s.win).mark<=ack/\(a.announce ack s.win).sc.lost (a.announce ack s.win).go≠[]then { a.announce ack s.win with cg:=(a.announce ack s.win).cg.lost c.flight (a.announce ack s.win).next }else a.announce ack s.win)=d at h2|-;split
 ·exact h2.trans (cJ d now 7)
 exact h2
structure RB (S:List UInt8)(cl:Bool)(c:Cn)(got:List UInt8):Prop where
 pi:PI S S.length c.bx got
 en:c.ended=true->cl=true/\c.sw=S.length
def Ir (ki:Int)(c:Cn):Prop:=c.st=0\/c.st=1\/c.A2=ki
namespace RB
variable {S S' : List UInt8} {cl cl' : Bool} {ki : Int} {c d : Cn} {got : List UInt8}
theorem fx (h:RB S cl c got)(f:Fx c d):RB S cl d got:=⟨by rw[f.bx];exact h.pi,by rw[f.ended,f.sw];exact h.en⟩
theorem gw (h:RB S cl c got)(g:(S'=S/\(cl=true->cl'=true))\/(cl=false/\∃x,S'=S++x))(e:S'.length<=1000):RB S' cl' c got:=by
 have a:=h.pi
 rcases g with⟨rfl,f⟩ | ⟨rfl,x,rfl⟩
 ·exact⟨a,fun he=>⟨f (h.en he).1,(h.en he).2⟩⟩
 have j:=a.EV;refine⟨⟨a.ok,Z,e,fun i hi b=> ?_,a.rd,?_,fun i hi=> ?_⟩,fun he=>by have:=(h.en he).1;cases this⟩
 ·rw[a.str i hi b,Mo (by have:=a.has i b;omega)]
 ·rw[List.take_append_of_le_length j];exact a.got
 have:=a.has i hi;rw[Lc];omega
theorem insert (h:RB S cl c got){x:List UInt8}{o:Nat}(f:x≠[]->x=(S.drop o).take x.length/\o+x.length<=S.length):RB S cl (c.insert o x) got:=by
 have a:∀y:List UInt8,y≠[]->y=x.take y.length->y.length<=x.length->PI S S.length (c.bx.put (max (o:Int) 0) y) got:=by
  intro y hy e g
  have b:x≠[]:=by
   rintro rfl
   simp at e
   exact hy e
  obtain⟨i,j⟩:=f b;rw[show max (o:Int) 0=(o:Int) by omega];refine(h.pi.put (off:=o) (to:=o+y.length) O O ?_).1;rw[Nat.add_sub_cancel_left]
  conv=>lhs;rw[e,i,Nw,Nat.min_eq_left g]
 refine⟨?_,h.en⟩;show PI S S.length (c.Ca o x) got;unfold Cn.Ca;split
 ·exact h.pi
 rename_i hy
 have e:nO c.ended c.sw o x=(if c.ended=true then x.take (min (max (c.sw-o) 0) x.length).toNat else x):=by
  unfold nO;rw[L7 (show ¬(o:Int)<0 by omega),MK]
 refine a _ hy ?_ ?_
 ·rw[e];split
  ·rw[Lg,<-Nw,Nw]
   congr 1
   omega
  rw[LV]
 rw[e];split
 ·rw[Lg];omega
 exact L6 _
theorem store (h:RB S cl c got)(now:Int){s:Sg}{o:Nat}(a:s.s≠[]->s.s=(S.drop o).take s.s.length/\o+s.s.length<=S.length):RB S cl (c.store now s o) got:=by
 unfold Cn.store;split
 ·exact h
 split
 ·split
  ·refine(h.insert a).fx ?_;unfold Cn.xa;split <;> exact⟨Z,Z,Z,Z⟩
  exact(h.insert a).fx ⟨Z,Z,Z,Z⟩
 exact h.fx ⟨Z,Z,Z,Z⟩
theorem tl (h:RB S cl c got)(now:Int){s:Sg}{o:Nat}(a:s.fin=true->cl=true/\o+s.s.length=S.length):RB S cl (c.tl now s o) got:=by
 unfold Cn.tl;dsimp only
 have h1:RB S cl (if s.fin=true/\aV c.st=true/\c.ended=false/\c.bx.nx<=(o:Int)+s.s.length then { c with ended:=true,sw:=(o:Int)+s.s.length }else c) got:=by
  split
  ·rename_i b;have:=a b.1;exact⟨h.pi,fun _=>⟨this.1,by show(o:Int)+s.s.length=S.length;omega⟩⟩
  exact h
 generalize (if s.fin=true/\aV c.st=true/\c.ended=false/\c.bx.nx<=(o:Int)+s.s.length then { c with ended:=true,sw:=(o:Int)+s.s.length }else c)=d at h1|-;split
 ·exact h1.fx ((show Fx d { d with over:=true }from⟨Z,Z,Z,Z⟩).trans ((cJ _ now 6).trans ⟨Z,Z,Z,Z⟩))
 exact h1
end RB
end
end Go.Proofs.YtcmncipikdpnbaaGreatDoor
