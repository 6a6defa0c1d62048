import Derived.Test.YtcmncipikdpnbaaGreatDoorUb8
namespace Go.Proofs.YtcmncipikdpnbaaGreatDoor
section
structure Kx where
 S:List UInt8
 cl:Bool
 kc:Int
 m:Int
 r:Int
 e:Int
structure GS (k:Kx)(s:Sg):Prop where
 qa:s.qa=true->s.s=[]/\s.fin=false/\s.syn=false
 dat:s.qa=false->∃off:Nat,s.sq=aw k.kc off/\off<=k.S.length+2/\(s.syn=true->off=0/\s.s=[]/\s.fin=false)/\(s.syn=false->1<=off)/\(s.s≠[]->s.s=(k.S.drop (off-1)).take s.s.length/\off-1+s.s.length<=k.S.length)/\(s.fin=true->k.cl=true/\off-1+s.s.length=k.S.length)
 len:(s.s.length:Int)<=k.m
 win:s.win<=k.r
 lim:s.s≠[]->aE s.sq (aw k.kc 1)+s.s.length<=k.e+1
structure Gw (k k':Kx):Prop where
 S:(k'.S=k.S/\(k.cl=true->k'.cl=true))\/(k.cl=false/\∃x,k'.S=k.S++x)
 kc:k'.kc=k.kc
 m:k'.m=k.m
 r:k'.r=k.r
 e:k.e<=k'.e
theorem Gw.refl (k:Kx):Gw k k:=⟨.inl ⟨Z,id⟩,Z,Z,Z,L9 _⟩
theorem xq {S x:List UInt8}{a k:Nat}(h:a+k<=S.length):((S++x).drop a).take k=(S.drop a).take k:=by
 rw[List.drop_append_of_le_length O,List.take_append_of_le_length JN]
theorem GS.gw {k f:Kx}{s:Sg}(h:GS k s)(g:Gw k f):GS f s:=by
 have he:=g.e;refine⟨h.qa,fun n=> ?_,by rw[g.m];exact h.len,by rw[g.r];exact h.win,fun hs=>by have:=h.lim hs;rw[g.kc];omega⟩;obtain⟨off,h1,h2,i,j,l,b⟩:=h.dat n
 rcases g.S with⟨e,o⟩ | ⟨p,x,e⟩
 ·rw[e,g.kc];exact⟨off,h1,h2,i,j,l,fun a=>⟨o (b a).1,(b a).2⟩⟩
 rw[e,g.kc];refine⟨off,h1,J7,i,j,fun hs=> ?_,fun a=>by have:=(b a).1;rw[p]at this;cases this⟩;have:=l hs;exact⟨by rw[xq this.2];exact this.1,J7⟩
structure SI (k:Kx)(c:Cn):Prop where
 b1:1<=c.base
 held:c.held=k.S.drop (c.base-1).toNat
 last:c.last=1+k.S.length
 nl:c.next<=c.last+(if c.shut=true then 1 else 0)
 sh:c.shut=true->k.cl=true
 bu:c.base<=max c.fM 1
 n1:1<=c.next
 kc:c.cf.kc=k.kc
 sm:k.S.length<=1000
 lim:c.limit<=1+k.e
 Fz:1<=c.fM->c.fM<=c.limit
 dat:min c.next c.last<=c.limit+1
 gi:c.gi<=k.m
 room:c.room=k.r
namespace SI
variable {k : Kx} {c d : Cn}
theorem same (h:SI k c)(d:Cn)(a:d.base=c.base)(f:d.held=c.held)(j:d.sc.fM=c.sc.fM)(l:d.sc.next=c.sc.next)(g:d.shut=c.shut)(m:d.cf=c.cf)(b:d.limit=c.limit)(n:d.gi=c.gi)(o:d.room=c.room):SI k d:=by
 have el:d.last=c.last:=by unfold Cn.last;rw[a,f]
 have e:d.next=c.next:=l;have i:d.fM=c.fM:=j;exact⟨by rw[a];exact h.b1,by rw[a,f];exact h.held,el.trans h.last,by rw[e,el,g];exact h.nl,by rw[g];exact h.sh,by rw[a,i];exact h.bu,by rw[e];exact h.n1,by rw[m];exact h.kc,h.sm,by rw[b];exact h.lim,by rw[i,b];exact h.Fz,by rw[e,el,b];exact h.dat,by rw[n];exact h.gi,o.trans h.room⟩
theorem len (h:SI k c):c.base+c.held.length=1+k.S.length:=h.last
theorem data (h:SI k c){lo hi:Int}(h1:c.base<=lo)(h2:lo<=c.last)(f:lo<=hi) :
  c.data lo hi=(k.S.drop (lo.toNat-1)).take (c.data lo hi).length/\((c.data lo hi).length:Int)=min hi c.last-lo:=by
 have g:=h.b1;have i:=h.len;have j:c.last=c.base+c.held.length:=Z
 have e:c.data lo hi=(k.S.drop (lo.toNat-1)).take ((min hi c.last-lo).toNat):=by
  unfold Cn.data mC;have a:min (max (lo-c.base) 0) (c.held.length:Int)=lo-c.base:=O
  have b:min (max (hi-c.base) (lo-c.base)) (c.held.length:Int)=min hi c.last-c.base:=O
  rw[a,b,List.drop_take,h.held,List.drop_drop]
  congr 1
  ·omega
  congr 1
  omega
 have el:((c.data lo hi).length:Int)=min hi c.last-lo:=by
  rw[e,Le,Lq];omega
 refine⟨?_,el⟩;have:(c.data lo hi).length=(min hi c.last-lo).toNat:=O
 rw[this];exact e
end SI
theorem gu (c:Cn)(g:Sg)(off:Int):(c.qE g off).sq=aw c.cf.kc off/\(c.qE g off).s=g.s/\(c.qE g off).fin=g.fin/\(c.qE g off).syn=g.syn/\(c.qE g off).qa=g.qa/\(c.qE g off).win=(if g.syn=true then c.room else c.raised c.gi-c.bx.nx):=by
 unfold Cn.qE;split
 ·rename_i h;refine⟨Z,Z,Z,Z,Z,?_⟩;show(if g.syn=true then c.room else g.win)=c.room;rw[L7 h]
 rename_i h;exact⟨Z,Z,Z,Z,Z,Z⟩
theorem xt (s:Sc)(x:Sp):(s.ret x).fM=s.fM/\(s.ret x).next=s.next:=by unfold Sc.ret;split <;> exact⟨Z,Z⟩
theorem uB (s:Sc)(n:Int):(s.sent n).fM=s.fM/\((s.sent n).next=s.next\/((s.sent n).next=n/\s.next<=n)):=by
 unfold Sc.sent;split
 ·rename_i h;unfold Sc.BV at h;exact⟨Z,.inr ⟨Z,(LJ h).1⟩⟩
 exact⟨Z,.inl Z⟩
theorem xu (s:Sc)(k:Bool)(kc:Int)(bl:List Sp):∀x∈dV k s.next kc bl,s.Ek x=true:=by
 intro x a;unfold dV at a;have:=(LZ.1 a).2;rw[Ly,Lh]at this;exact Sc.zy.2 O
theorem mQ (s:Sc){a:Int}(h0:0<=a)(h1:a<=s.next){l:List Sp}(hl:∀x∈l,s.Ek x=true):(s.go a l).fM=max s.fM a/\(s.go a l).next=s.next:=by
 unfold Sc.go;rw[L7 (Sc.D5.2 ⟨⟨h0,h1⟩,hl⟩)];exact⟨Z,Z⟩
namespace SI
variable {k : Kx} {c d : Cn}
theorem GW (h:SI k c)(ok:c.Ok)(m:Int):c.raised m-c.bx.nx<=k.r:=by
 have h1:=(ok.raised m).2.2.2;have h2:=ok.bx.xK;have a:=ok.ring;have b:=h.room;unfold Cn.most at h1;omega
theorem piece (h:SI k c)(ok:c.Ok){lo hi:Int}(h1:c.base<=lo)(h2:lo<=c.last)(i:lo<=hi)(q:min hi c.last-lo<=c.gi)(r:min hi c.last<=c.limit+1):GS k (c.kZ lo hi):=by
 obtain⟨f,a,j,l,m,n⟩:=gu c { dH with s:=c.data lo hi,fin:=c.shut&&decide (c.last<hi) } lo;have e:c.kZ lo hi=c.qE { dH with s:=c.data lo hi,fin:=c.shut&&decide (c.last<hi) } lo:=Z;obtain⟨d1,d2⟩:=h.data h1 h2 i;have t:=h.b1;have u:=h.last;have o:=h.sm;refine⟨fun g=> ?_,fun _=>⟨lo.toNat,?_,O,fun hy=> ?_,fun _=>by omega,fun _=> ?_,fun b=> ?_⟩,?_,?_,fun _=> ?_⟩
 ·rw[e,m]at g;cases g
 ·rw[e,f,h.kc];congr 1;omega
 ·rw[e,l]at hy;cases hy
 ·rw[e,a];exact⟨d1,II⟩
 ·rw[e,j]at b;rw[e,a];dsimp only at b|-;rw[Ly,Lh]at b;exact⟨h.sh b.1,O⟩
 ·rw[e,a];have:=h.gi;dsimp only;omega
 ·rw[e,n];exact h.GW ok _
 rw[e,f,a,h.kc];have p:aE (aw k.kc lo) (aw k.kc 1)=lo-1:=by unfold aE aw;omega
 have:=h.lim;rw[p];dsimp only;omega
theorem m0 (h:SI k c)(ok:c.Ok):28<=k.m/\1<=k.r:=by have:=ok.gi;have:=h.gi;have:=ok.room;have:=h.room;omega
theorem ack (h:SI k c)(ok:c.Ok):GS k (c.qE dH c.next):=by
 obtain⟨f,a,g,i,j,l⟩:=gu c dH c.next;have h1:=h.n1;have h2:=h.nl;have n:=h.last;have o:=h.m0 ok;refine⟨fun b=> ?_,fun _=>⟨c.next.toNat,?_,by split at h2 <;> omega,fun hy=> ?_,fun _=>by omega,fun hs=> ?_,fun e=> ?_⟩,?_,?_,fun hs=> ?_⟩
 ·rw[j]at b;cases b
 ·rw[f,h.kc];congr 1;omega
 ·rw[i]at hy;cases hy
 ·rw[a]at hs;exact absurd Z hs
 ·rw[g]at e;cases e
 ·rw[a];show(0:Int)<=k.m;omega
 ·rw[l];exact h.GW ok _
 rw[a]at hs;exact absurd Z hs
theorem syn (h:SI k c)(ok:c.Ok):GS k c.qI:=by
 have b:c.qI.sq=aw c.cf.kc 0/\c.qI.s=[]/\c.qI.fin=false/\c.qI.syn=true/\c.qI.qa=false/\c.qI.win=c.room:=by
  unfold Cn.qI;split
  ·exact⟨Z,Z,Z,Z,Z,Z⟩
  exact gu c _ 0
 obtain⟨i,a,e,j,l,n⟩:=b;have o:=h.m0 ok;exact⟨fun f=>by(rw[l]at f;cases f),fun _=>⟨0,by rw[i,h.kc];rfl,O,fun _=>⟨Z,a,e⟩,fun hy=>by(rw[j]at hy;cases hy),fun hs=>absurd a hs,fun g=>by(rw[e]at g;cases g)⟩,by rw[a];show(0:Int)<=k.m;omega,by rw[n,h.room];exact L9 _,fun hs=>absurd a hs⟩
theorem reset (h:SI k c)(ok:c.Ok)(n:Int):GS k (c.qH n):=⟨fun _=>⟨Z,Z,Z⟩,(fun h=>nomatch h),by have:=h.m0 ok;show(0:Int)<=k.m;omega,by have:=h.m0 ok;show(0:Int)<=k.r;omega,fun hs=>absurd Z hs⟩
theorem qG (h:SI k c)(b:Bool):SI k (c.qG b):=by unfold Cn.qG;split <;> exact h.same _ Z Z Z Z Z Z Z Z Z
theorem v6 (h:SI k c):SI k c.v6:=by unfold Cn.v6;split <;> exact h.same _ Z Z Z Z Z Z Z Z Z
theorem step (h:SI k c)(now e:Int):SI k (c.step now e):=by
 unfold Cn.step;split
 ·exact h
 split <;> exact h.same _ Z Z Z Z Z Z Z Z Z
theorem finish (h:SI k c)(now e a:Int):SI k (c.finish now e a):=(h.step now e).same _ Z Z Z Z Z Z Z Z Z
theorem D7 (h:SI k c)(s:Sc)(h1:c.fM<=s.fM)(h2:c.next<=s.next)(l:s.next<=c.last+(if c.shut=true then 1 else 0))(d:Cn)(a:d.base=c.base)(f:d.held=c.held)(g:d.sc=s)(i:d.shut=c.shut)(m:d.cf=c.cf)(b:d.limit=c.limit)(n:d.gi=c.gi)(o:d.room=c.room)(p:1<=s.fM->s.fM<=c.limit)(q:min s.next c.last<=c.limit+1):SI k d:=by
 have el:d.last=c.last:=by unfold Cn.last;rw[a,f]
 have e:d.next=s.next:=by unfold Cn.next;rw[g]
 have j:d.fM=s.fM:=by unfold Cn.fM;rw[g]
 have r:=h.bu;have t:=h.n1;have u:=h.Fz;exact⟨by rw[a];exact h.b1,by rw[a,f];exact h.held,el.trans h.last,by rw[e,el,i];exact l,by rw[i];exact h.sh,by rw[a,j];omega,by rw[e];omega,by rw[m];exact h.kc,h.sm,by rw[b];exact h.lim,by rw[j,b];exact p,by rw[e,el,b];exact q,by rw[n];exact h.gi,o.trans h.room⟩
theorem out (h:SI k c)(ok:c.Ok)(now:Int){n:Int}(h0:0<=n)(h1:c.next+n<=c.last)(h2:n<=c.gi)(s:min (c.next+n) c.last<=c.limit+1):SI k (c.out now n)/\(c.out now n).fM=c.fM/\GS k (c.kl n):=by
 have b:(c.qG false).last=c.last/\(c.qG false).sc=c.sc/\(c.qG false).shut=c.shut/\(c.qG false).base=c.base/\(c.qG false).held=c.held/\(c.qG false).cf=c.cf/\(c.qG false).limit=c.limit/\(c.qG false).gi=c.gi/\(c.qG false).room=c.room:=by unfold Cn.qG;split <;> exact⟨Z,Z,Z,Z,Z,Z,Z,Z,Z⟩
 obtain⟨t,u,e,f,g,i,j,l,m⟩:=b;obtain⟨a,w⟩:=uB c.sc (c.kn n)
 have o:c.next+n<=c.kn n/\c.kn n<=c.last+(if c.shut=true then 1 else 0)/\(c.kn n=c.next+n\/c.next+n=c.last):=by
  unfold Cn.kn;split
  ·rename_i p;rw[L7 p.1];omega
  split <;> omega
 have x:=h.nl;have y:c.sc.next=c.next:=Z;have q:c.sc.fM=c.fM:=Z;have z:=h.bu;have A:=h.n1;have r:=ok.fM;have B:=h.dat;exact⟨h.D7 (c.sc.sent (c.kn n)) O O O _ f g Z e i j l m (by rw[a];exact h.Fz) O,a,h.piece ok O O O O O⟩
theorem n7 (n:Nat):∀{c:Cn} (l:List Sg),c.Ok->SI k c->1<=c.fM->(∀x∈l,GS k x)->SI k (n7 n c l).1/\(∀x∈(n7 n c l).2,GS k x)/\(n7 n c l).1.fM=c.fM:=by
 induction n with
 | zero=>exact fun l _ h _ a=>⟨h,a,Z⟩
 | succ n i =>
  intro c l ok h w a;unfold Go.Proofs.YtcmncipikdpnbaaGreatDoor.n7;split
  ·split
   ·exact⟨h,a,Z⟩
   rename_i x t j;have y:=ok.gi;obtain⟨o,z,A,-⟩:=dz ok.sc (m:=c.gi) O (x:=x) (by rw[j];simp);unfold ib at o;obtain⟨e,f⟩:=xt c.sc (aK c.gi x)
   have b:∀t:Tm,SI k { c.qn with sc:=c.sc.ret (aK c.gi x),tm:=t }:=fun t=>(h.qG false).D7 (c.sc.ret (aK c.gi x)) (by rw[e];unfold Cn.qG Cn.fM;split <;> exact L9 _) (by rw[f];unfold Cn.qG Cn.next;split <;> exact L9 _) (by
    rw[f];have:=h.nl;unfold Cn.qG Cn.last Cn.next at *;split <;> exact this) _ Z Z Z Z Z Z Z Z (by rw[e];have:=h.Fz;unfold Cn.qG Cn.fM at *;split <;> exact this) (by
    rw[f];have:=h.dat;unfold Cn.qG Cn.last Cn.next at *;split <;> exact this)
   split
   ·have B:=h.bu;have g:=h.nl;have p:c.sc.fM=c.fM:=Z;have q:c.sc.next=c.next:=Z;have C:=h.dat;have hcut:(aK c.gi x).2=min x.2 (x.1+c.gi):=Z;obtain⟨r,s,u⟩:=i (l++[c.kZ x.1 (aK c.gi x).2]) ((ok.qn.D7 (ok.sc.ret _)).Dk (Tm.tv ok.tm)) (b _) (by show 1<=(c.sc.ret (aK c.gi x)).fM;omega) (Cn.Ok.CN a (h.piece ok O (by split at g <;> omega) O O O));exact⟨r,s,u.trans e⟩
   exact⟨b _,a,e⟩
  exact⟨h,a,Z⟩
theorem sK (c:Cn):c.allowed<=max c.iq 0/\c.allowed<=max c.gi 0/\c.allowed<=max (c.limit-c.next) 0:=by
 unfold Cn.allowed;split
 ·omega
 split
 ·omega
 split <;> omega
theorem kr {now:Int}(b:aI now)(n:Nat):∀{c:Cn} (l:List Sg),c.Ok->SI k c->(∀x∈l,GS k x)->SI k (kr now n c l).1/\(∀x∈(kr now n c l).2,GS k x)/\(kr now n c l).1.fM=c.fM:=by
 induction n with
 | zero=>exact fun l _ h a=>⟨h,a,Z⟩
 | succ n e =>
  intro c l ok h a;unfold Go.Proofs.YtcmncipikdpnbaaGreatDoor.kr;split
  ·rename_i p;have q:=sK c;have r:c.iq=max 0 (c.last-c.next):=Z;obtain⟨f,g,i⟩:=h.out ok now (n:=c.allowed) O O O O;obtain⟨j,m,o⟩:=e (l++[c.kl c.allowed]) (ok.out b _) f (Cn.Ok.CN a i);exact⟨j,m,o.trans g⟩
  exact⟨h,a,Z⟩
theorem ug (now:Int)(ok:c.Ok)(h:SI k c)(l:List Sg)(hl:∀x∈l,GS k x):SI k (ug now c l).1/\(∀x∈(ug now c l).2,GS k x)/\(ug now c l).1.fM=c.fM:=by
 unfold Go.Proofs.YtcmncipikdpnbaaGreatDoor.ug;split
 ·rename_i f;have g:=h.dat;have i:=ok.gi;obtain⟨a,b,e⟩:=h.out ok now (n:=0) D O O O;exact⟨a,Cn.Ok.CN hl e,b⟩
 exact⟨h,hl,Z⟩
theorem o6 (h:SI k c)(ok:c.Ok){now:Int}(f:aI now)(p:1<=c.fM):SI k (c.o6 now).1/\(∀x∈(c.o6 now).2,GS k x)/\(c.o6 now).1.fM=c.fM:=by
 have e:=Cn.Ok.n7 (c.flight.toNat+1) ok [];obtain⟨g,i,j⟩:=SI.n7 (c.flight.toNat+1) [] ok h p Cn.Ok.all_nil;unfold Cn.o6;dsimp only;generalize Go.Proofs.YtcmncipikdpnbaaGreatDoor.n7 (c.flight.toNat+1) c []=a at e g i j|-;have l:=Cn.Ok.kr f (a.1.iq.toNat+1) e a.2;obtain⟨m,n,o⟩:=SI.kr f (a.1.iq.toNat+1) a.2 e g i;generalize Go.Proofs.YtcmncipikdpnbaaGreatDoor.kr now (a.1.iq.toNat+1) a.1 a.2=b at l m n o|-;obtain⟨q,r,s⟩:=SI.ug now l m b.2 n;exact⟨q,r,s.trans (o.trans j)⟩
theorem AY (c:Cn)(b:Bool):(c.qG b).fM=c.fM:=by unfold Cn.qG Cn.fM;split <;> rfl
theorem qD (h:SI k c)(ok:c.Ok)(l:List Sg)(hl:∀x∈l,GS k x):SI k (c.qD l).1/\(∀x∈(c.qD l).2,GS k x)/\(c.qD l).1.fM=c.fM:=by
 unfold Cn.qD;split
 ·exact⟨h.qG false,Cn.Ok.CN hl (h.ack ok),AY c false⟩
 exact⟨h,hl,Z⟩
theorem lp (h:SI k c)(now:Int):SI k (c.lp now)/\(c.lp now).fM=c.fM:=by
 unfold Cn.lp;split
 ·exact⟨h.same _ Z Z Z Z Z Z Z Z Z,Z⟩
 split
 ·exact⟨h,Z⟩
 exact⟨h.same _ Z Z Z Z Z Z Z Z Z,Z⟩
theorem push (h:SI k c)(ok:c.Ok){now:Int}(g:aI now)(u:3<=c.st->1<=c.fM):SI k (c.push now).1/\(∀x∈(c.push now).2,GS k x)/\(c.push now).1.fM=c.fM:=by
 unfold Cn.push;split
 ·exact⟨h,Cn.Ok.all_nil,Z⟩
 dsimp only
 have b:∀a:Cn×List Sg,a.1.Ok->SI k a.1->(∀x∈a.2,GS k x)->a.1.fM=c.fM->SI k ((a.1.qD a.2).1.lp now)/\(∀x∈(a.1.qD a.2).2,GS k x)/\((a.1.qD a.2).1.lp now).fM=c.fM:=by
  intro a h0 h1 h2 i;obtain⟨p1,e,f⟩:=h1.qD h0 a.2 h2;obtain⟨j,l⟩:=p1.lp now;exact⟨j,e,l.trans (f.trans i)⟩
 split
 ·rename_i hs;obtain⟨p1,e,f⟩:=h.o6 ok g (u (by unfold ae at hs;have:=LJ hs;omega));exact b _ (ok.o6 g) p1 e f
 exact b (c,[]) ok h Cn.Ok.all_nil Z
theorem drop (h:SI k c){a:Int}(ha:a<=max c.fM 1):SI k (c.drop a):=by
 have h1:=h.b1;have h2:=h.bu;have f:=h.len;have e:0<=dL c.held c.base a/\dL c.held c.base a<=c.held.length/\c.base+dL c.held c.base a<=max c.base a:=by unfold dL;omega
 have el:(c.drop a).last=c.last:=by
  unfold Cn.drop Cn.last;dsimp only;rw[Lq];omega
 refine⟨by unfold Cn.drop;dsimp only;omega,?_,el.trans h.last,by rw[el];exact h.nl,h.sh,?_,h.n1,h.kc,h.sm,h.lim,h.Fz,by rw[el];exact h.dat,h.gi,h.room⟩
 ·have b:∀n:Int,0<=n->c.held.drop n.toNat=k.S.drop (c.base+n-1).toNat:=by
   intro n g;rw[h.held,List.drop_drop]
   congr 1
   omega
  exact b _ e.1
 show c.base+dL c.held c.base a<=max c.fM 1;omega
theorem announce (h:SI k c){a w:Int}(b:c.fM<=a\/c.fM<=c.limit)(hw:0<=w)(he:a+w<=1+k.e):SI k (c.announce a w) :=
 ⟨h.b1,h.held,h.last,h.nl,h.sh,h.bu,h.n1,h.kc,h.sm,by have:=h.lim;unfold Cn.announce;dsimp only;omega,fun _=>by(show c.fM<=max c.limit (a+w);omega),by have:=h.dat;show min c.next c.last<=max c.limit (a+w)+1;omega,h.gi,h.room⟩
theorem go (h:SI k c)(now:Int)(s:Sg){ack:Int}(h0:0<=ack)(h1:ack<=c.next)(hw:0<=s.win)(he:ack+s.win<=1+k.e):SI k (c.go now s ack)/\max c.fM ack<=(c.go now s ack).fM:=by
 unfold Cn.go;split
 ·exact⟨h.same _ Z Z Z Z Z Z Z Z Z,by show _<=c.fM;omega⟩
 rename_i t;obtain⟨i,j⟩:(c.sc.go ack (dV c.iu c.next c.cf.kc s.bl)).fM=max c.sc.fM ack/\(c.sc.go ack (dV c.iu c.next c.cf.kc s.bl)).next=c.sc.next:=mQ c.sc h0 h1 (xu c.sc c.iu c.cf.kc s.bl);have hA:=h.announce (a:=ack) (w:=s.win) (.inl O) hw he;have q:c.sc.fM=c.fM:=Z;have r:c.sc.next=c.next:=Z;have l:SI k (({ c.announce ack s.win with tries:=0 }:Cn).report ack s.bl):=hA.D7 (c.sc.go ack (dV c.iu c.next c.cf.kc s.bl)) (by show c.sc.fM<=_;rw[i];omega) (by show c.sc.next<=_;rw[j];exact L9 _) (by have:=h.nl;rw[j];exact this) _ Z Z Z Z Z Z Z Z (fun _=>by(rw[i];show _<=max c.limit (ack+s.win);omega)) (by have:=hA.dat;rw[j];exact this)
 have m:(({ c.announce ack s.win with tries:=0 }:Cn).report ack s.bl).fM=ack:=by
  show(c.sc.go ack (dV c.iu c.next c.cf.kc s.bl)).fM=ack;rw[i];omega
 dsimp only
 have h2:SI k ((if c.fM<ack then(if 0<ack-max c.fM 1 then({ ({ c with tries:=0 }:Cn).report ack s.bl with dl:=eG,tm:=(({ c with tries:=0 }:Cn).report ack s.bl).tm.go now ack,cg:=(({ c with tries:=0 }:Cn).report ack s.bl).cg.go (ack-max c.fM 1) ack }:Cn)else { ({ c with tries:=0 }:Cn).report ack s.bl with dl:=eG,tm:=(({ c with tries:=0 }:Cn).report ack s.bl).tm.go now ack }).drop ack else({ c with tries:=0 }:Cn).report ack s.bl).announce ack s.win)/\((if c.fM<ack then(if 0<ack-max c.fM 1 then({ ({ c with tries:=0 }:Cn).report ack s.bl with dl:=eG,tm:=(({ c with tries:=0 }:Cn).report ack s.bl).tm.go now ack,cg:=(({ c with tries:=0 }:Cn).report ack s.bl).cg.go (ack-max c.fM 1) ack }:Cn)else { ({ c with tries:=0 }:Cn).report ack s.bl with dl:=eG,tm:=(({ c with tries:=0 }:Cn).report ack s.bl).tm.go now ack }).drop ack else({ c with tries:=0 }:Cn).report ack s.bl).announce ack s.win).fM=ack:=by
  have o:ack<=max (({ c.announce ack s.win with tries:=0 }:Cn).report ack s.bl).fM 1:=O
  split
  ·split
   ·exact⟨(l.same { ({ c.announce ack s.win with tries:=0 }:Cn).report ack s.bl with dl:=eG,tm:=(({ c with tries:=0 }:Cn).report ack s.bl).tm.go now ack,cg:=(({ c with tries:=0 }:Cn).report ack s.bl).cg.go (ack-max c.fM 1) ack } Z Z Z Z Z Z Z Z Z).drop o,m⟩
   exact⟨(l.same { ({ c.announce ack s.win with tries:=0 }:Cn).report ack s.bl with dl:=eG,tm:=(({ c with tries:=0 }:Cn).report ack s.bl).tm.go now ack } Z Z Z Z Z Z Z Z Z).drop o,m⟩
  exact⟨l,m⟩
 generalize (if c.fM<ack then(if 0<ack-max c.fM 1 then({ ({ c with tries:=0 }:Cn).report ack s.bl with dl:=eG,tm:=(({ c with tries:=0 }:Cn).report ack s.bl).tm.go now ack,cg:=(({ c with tries:=0 }:Cn).report ack s.bl).cg.go (ack-max c.fM 1) ack }:Cn)else { ({ c with tries:=0 }:Cn).report ack s.bl with dl:=eG,tm:=(({ c with tries:=0 }:Cn).report ack s.bl).tm.go now ack }).drop ack else({ c with tries:=0 }:Cn).report ack s.bl)=a at h2|-;generalize a.announce ack s.win=b at h2|-;obtain⟨p,f⟩:=h2
 have g:SI k (if 0<c.Ct ack s.bl/\b.mark<=ack/\b.sc.lost b.gi≠[]then { b with cg:=b.cg.lost c.flight b.next }else b)/\(if 0<c.Ct ack s.bl/\b.mark<=ack/\b.sc.lost b.gi≠[]then { b with cg:=b.cg.lost c.flight b.next }else b).fM=ack:=by
  split
  ·exact⟨p.same _ Z Z Z Z Z Z Z Z Z,f⟩
  exact⟨p,f⟩
 generalize (if 0<c.Ct ack s.bl/\b.mark<=ack/\b.sc.lost b.gi≠[]then { b with cg:=b.cg.lost c.flight b.next }else b)=d at g|-;obtain⟨g,u⟩:=g;have n:(d.step now 7).fM=d.fM:=by unfold Cn.step Cn.fM;split;rfl;split <;> rfl
 split
 ·exact⟨g.step now 7,by rw[n];omega⟩
 exact⟨g,O⟩
end SI
def fj (k:Kx)(s:Sg):Prop:=(s.has=true->s.syn=false->aE s.ak (aw k.kc 1)+s.win<=k.e)/\(s.syn=true->s.win<=k.e)
theorem fj.gw {k a:Kx}{s:Sg}(h:fj k s)(g:Gw k a):fj a s:=by
 have he:=g.e;refine⟨fun h1 h2=> ?_,fun h1=>Lz (h.2 h1) he⟩;rw[g.kc];exact Lz (h.1 h1 h2) he
theorem SI.gw {k a:Kx}{c:Cn}(h:SI k c)(g:Gw k a)(hl:a.S.length<=1000)(b:a.S=k.S)(f:a.cl=k.cl):SI a c:=by
 have he:=g.e;exact⟨h.b1,by rw[b];exact h.held,by rw[b];exact h.last,h.nl,by rw[f];exact h.sh,h.bu,h.n1,by rw[g.kc];exact h.kc,hl,by have:=h.lim;omega,h.Fz,h.dat,by rw[g.m];exact h.gi,by rw[g.r];exact h.room⟩
theorem fj.ack {k:Kx}{s:Sg}(h:fj k s)(h1:s.has=true)(h2:s.syn=false)(h0:0<=aE s.ak k.kc):aE s.ak k.kc+s.win<=1+k.e:=by
 have a:=h.1 h1 h2;have b:aE s.ak (aw k.kc 1)=aE s.ak k.kc-1:=by unfold aE aw at *;omega
 omega
end
inductive Rs (cl:Bool):Int->Int->Prop where
 | refl (a:Int):Rs cl a a
 | step {a b c:Int} (e:Int):Rs cl a b->b≠0->(e=5->cl=true)->gb b e=some c->Rs cl a c
theorem Rs.trans {cl:Bool}{a b c:Int}(h:Rs cl a b)(k:Rs cl b c):Rs cl a c:=by
 induction k with
 | refl=>exact h
 | step e _ h0 h5 hs ih=>exact .step e ih h0 h5 hs
theorem Rs.cl {a b:Int}(h:Rs false a b):Rs true a b:=by
 induction h with
 | refl=>exact .refl _
 | step e _ h0 h5 hs ih=>exact .step e ih h0 (fun _=>rfl) hs
theorem Cn.step_shut (c:Cn)(now e:Int):(c.step now e).shut=c.shut:=by
 unfold Cn.step;split
 ·rfl
 split <;> rfl
theorem Cn.Ad (c:Cn)(now e:Int):(c.step now e).st=(match gb c.st e with | none=>c.st | some n=>n):=by
 unfold Cn.step;split
 ·rename_i a;rw[a]
 rename_i n a;rw[a];split <;> rfl
structure Mv (c d:Cn):Prop where
 rs:Rs c.shut c.st d.st
 sh:d.shut=c.shut
theorem Mv.refl (c:Cn):Mv c c:=⟨.refl _,Z⟩
theorem Mv.same (c d:Cn)(h1:d.st=c.st)(h2:d.shut=c.shut):Mv c d:=⟨by rw[h1];exact .refl _,h2⟩
theorem Mv.trans {c d e:Cn}(h:Mv c d)(k:Mv d e):Mv c e:=⟨h.rs.trans (by have:=k.rs;rwa [h.sh]at this),k.sh.trans h.sh⟩
theorem Mv.step (c:Cn)(now e:Int)(h:c.st≠0\/(3<=e/\e<=7))(a:e=5->c.shut=true):Mv c (c.step now e):=by
 refine⟨?_,Cn.step_shut c now e⟩;rw[Cn.Ad]
 cases hx:gb c.st e with
 | none=>exact .refl _
 | some n =>
  refine .step e (.refl _) ?_ a hx
  rcases h with h | h
  ·exact h
  intro h0;unfold gb at hx;rw[L7 h0,L5 O,L5 O]at hx
  cases hx
structure Sh (c:Cn):Prop where
 bd:0<=c.st/\c.st<=9
 op:c.shut=false->c.st=0\/c.st=1\/c.st=2\/c.st=3\/c.st=6
 one:c.st=1->c.shut=false
def behind (cl:Bool)(a:Nat):List Int :=
 match cl,a with
 | _,0=>[0]
 | false,1=>[1,0,2,3,6]
 | false,2=>[2,0,3,6]
 | false,3=>[3,0,6]
 | false,6=>[6,0]
 | _,_=>[0,1,2,3,4,5,6,7,8,9]
def xw:Nat->Int->Int->Int
 | 0,a,b=>if a=b then 0 else 9
 | n+1,a,b=>if a=b then 0 else
  ([1,2,3,4,5,6,7,8,9]:List Int).foldl (fun f e=>match gb a e with
   | some s=>if s≠a then min f (1+xw n s b)else f
   | none=>f) 9
def Cu:List Int:=[1,2,3,4,5,6,7,8,9]
theorem Bi {a e c:Int}(h:gb a e=some c):e∈Cu:=by
 have:1<=e/\e<=9:=by
  unfold gb at h
  (repeat' split at h) <;> first | (cases h;done) | omega
 have:e=1\/e=2\/e=3\/e=4\/e=5\/e=6\/e=7\/e=8\/e=9:=O
 unfold Cu
 simpa using this
def CW (a b:Int):Bool:=decide (xw 3 a b<=3)
theorem AZ:∀b∈([0,1,2,3,6]:List Int),CW 1 b=true/\(b≠0->∀e∈Cu,e≠5->(match gb b e with | some c=>decide (c∈([0,1,2,3,6]:List Int)) | none=>true)=true)/\(match gb b 5 with | some c=>CW 1 c | none=>true)=true:=by decide +kernel
theorem Rs.bd {cl:Bool}{a b:Int}(h:Rs cl a b)(ha:0<=a/\a<=9):0<=b/\b<=9:=by
 induction h with
 | refl=>exact ha
 | step e _ _ _ hs _=>exact sI hs
theorem Rs.closed {cl:Bool}{a b:Int}(h:Rs cl a b)(h0:a=0):b=0:=by
 induction h with
 | refl=>exact h0
 | step e hp hb _ _ ih=>exact absurd ih hb
theorem Rs.one {a b:Int}(h:Rs false a b)(ha:a=1):b∈([0,1,2,3,6]:List Int):=by
 induction h with
 | refl=>subst ha;decide
 | step e hp h0 h5 hs ih =>
  have:=(AZ _ ih).2.1 h0 e (Bi hs) (fun h=>by have:=h5 h;cases this);rw[hs]at this;exact LJ this
theorem gv (c:Cn)(b:Bool):(c.qG b).st=c.st/\(c.qG b).shut=c.shut:=by unfold Cn.qG;split <;> exact⟨Z,Z⟩
theorem xx (n:Nat):∀(c:Cn) (l:List Sg),(n7 n c l).1.st=c.st:=by
 induction n with
 | zero=>exact fun c l=>rfl
 | succ n a =>
  intro c l;unfold n7;split
  ·split
   ·rfl
   split
   ·rw[a];exact(gv c false).1
   exact(gv c false).1
  rfl
theorem xy (now:Int)(n:Nat):∀(c:Cn) (l:List Sg),(kr now n c l).1.st=c.st:=by
 induction n with
 | zero=>exact fun c l=>rfl
 | succ n a =>
  intro c l;unfold kr;split
  ·rw[a];exact(gv c false).1
  rfl
theorem dA (c:Cn)(now:Int):(c.push now).1.st=c.st:=by
 unfold Cn.push;split
 ·rfl
 dsimp only
 have b:∀a:Cn×List Sg,a.1.st=c.st->((a.1.qD a.2).1.lp now).st=c.st:=by
  intro a e
  have h1:(a.1.qD a.2).1.st=a.1.st:=by
   unfold Cn.qD;split
   ·exact(gv _ false).1
   rfl
  have h2:∀d:Cn,(d.lp now).st=d.st:=by
   intro d;unfold Cn.lp;split
   ·rfl
   split <;> rfl
  rw[h2,h1,e]
 split
 ·refine b _ ?_;unfold Cn.o6;dsimp only
  have f:∀(d:Cn) (l:List Sg),(ug now d l).1.st=d.st:=by
   intro d l;unfold ug;split
   ·exact(gv d false).1
   rfl
  rw[f,xy,xx]
 exact b (c,[]) Z
section
def U1 (c:Cn):Prop:=3<=c.st->1<=c.fM
def jN (k:Kx)(r:Cn×List Sg):Prop:=SI k r.1/\(∀x∈r.2,GS k x)/\U1 r.1
theorem pH (c:Cn)(now e:Int):(c.step now e).fM=c.fM:=by unfold Cn.step Cn.fM;split;rfl;split <;> rfl
theorem dB (c:Cn)(now a:Int){e:Int}(he:e=8\/e=9):(c.finish now e a).st=0:=by
 show(c.step now e).st=0;rw[Cn.Ad];unfold gb;by_cases h0:c.st=0
 ·rw[L7 h0]
  rcases he with rfl | rfl <;> exact h0
 rw[L5 h0,L7 he]
theorem U1.zero {c:Cn}(h:c.st=0):U1 c:=fun a=>by omega
theorem qc (c:Cn)(now:Int)(s:Sg)(off:Int):(c.store now s off).sc=c.sc:=by
 unfold Cn.store;split
 ·rfl
 split
 ·split
  ·unfold Cn.rl;split <;> rfl
  rfl
 rfl
theorem uC (c:Cn)(now:Int)(s:Sg)(off:Int):(c.qb now s off).fM=c.fM:=by
 unfold Cn.qb;dsimp only;have h1:(if s.fin=true/\aV c.st=true/\c.ended=false/\c.bx.nx<=off+s.s.length then { c with ended:=true,ox:=off+s.s.length }else c).fM=c.fM:=IV
 generalize (if s.fin=true/\aV c.st=true/\c.ended=false/\c.bx.nx<=off+s.s.length then { c with ended:=true,ox:=off+s.s.length }else c)=d at h1|-;split
 ·rw[<-h1];exact pH { d with over:=true } now 6
 exact h1
namespace SI
variable {k : Kx} {c d : Cn}
theorem gB (h:SI k c):SI k c.gB:=h.same _ Z Z Z Z Z Z Z Z Z
theorem rl (h:SI k c)(now:Int):SI k (c.rl now):=by unfold Cn.rl;split <;> exact h.same _ Z Z Z Z Z Z Z Z Z
theorem insert (h:SI k c)(off:Int)(s:List UInt8):SI k (c.insert off s):=h.same _ Z Z Z Z Z Z Z Z Z
theorem store (h:SI k c)(now:Int)(s:Sg)(off:Int):SI k (c.store now s off):=by
 unfold Cn.store;split
 ·exact h
 split
 ·split
  ·exact(h.insert _ _).rl now
  exact(h.insert _ _).gB
 exact h.gB
theorem qb (h:SI k c)(now:Int)(s:Sg)(off:Int):SI k (c.qb now s off):=by
 unfold Cn.qb;dsimp only
 have h1:SI k (if s.fin=true/\aV c.st=true/\c.ended=false/\c.bx.nx<=off+s.s.length then { c with ended:=true,ox:=off+s.s.length }else c):=by
  split
  ·exact h.same _ Z Z Z Z Z Z Z Z Z
  exact h
 generalize (if s.fin=true/\aV c.st=true/\c.ended=false/\c.bx.nx<=off+s.s.length then { c with ended:=true,ox:=off+s.s.length }else c)=d at h1|-;split
 ·exact((h1.same { d with over:=true } Z Z Z Z Z Z Z Z Z).step now 6).gB
 exact h1
theorem D8 (h:SI k c)(ok:c.Ok){now:Int}(a:aI now)(u:U1 c):jN k (c.push now):=by
 obtain⟨h1,h2,b⟩:=h.push ok a u;exact⟨h1,h2,fun hs=>by rw[b];rw[dA]at hs;exact u hs⟩
theorem tail (h:SI k c)(ok:c.Ok){now:Int}(a:aI now){s:Sg}(hs:s.Ok){off ack:Int}(ho: -2147483648<=off/\off<=2147483647)(h0:0<=ack)(h1:ack<=c.next)(ha:ack<=2147483647)(f:1<=max c.fM ack)(he:ack+s.win<=1+k.e) :
  jN k ((((c.go now s ack).store now s off).qb now s off).push now):=by
 obtain⟨b,g⟩:=h.go now s h0 h1 hs.win.1 he;refine SI.D8 (SI.qb (SI.store b now s off) now s off) (ok.tail a hs ho ha) a (fun _=> ?_);rw[uC];show 1<=((c.go now s ack).store now s off).sc.fM;rw[qc];show 1<=(c.go now s ack).fM;omega
theorem process (h:SI k c)(ok:c.Ok){now:Int}(b:aI now){s:Sg}(hs:s.Ok){off:Int}(ho: -2147483648<=off/\off<=2147483647)(u:U1 c)(r:2<=c.st)(i:fj k s)(j:s.has=true)(hy:s.syn=false):jN k (c.process now s off):=by
 have a:=h.kc;have g:=bP s.ak c.cf.kc;have o:=ok.fM;unfold Cn.process;dsimp only;split
 ·rename_i h2;have f:=ok.tr2 O;split
  ·exact⟨h,Cn.Ok.BT (h.reset ok _),u⟩
  rename_i t;have l:=ok.step b f 4;have m:∀e,(c.step now e).next=c.next:=fun e=>by unfold Cn.step Cn.next;split;rfl;split <;> rfl
  split
  ·refine SI.tail ((h.step now 4).step now 5) (l.step b (by rw[Cn.A4];exact f) 5) b hs ho O ?_ g.2 O K9
   have:((c.step now 4).step now 5).next=(c.step now 4).next:=by
    show(Cn.step (c.step now 4) now 5).sc.next=(c.step now 4).sc.next;generalize c.step now 4=d;unfold Cn.step;split
    ·rfl
    split <;> rfl
   rw[this,m];omega
  exact SI.tail (h.step now 4) l b hs ho O (by rw[m];omega) g.2 O K9
 rename_i h2;split
 ·exact h.gB.D8 ok.gB b u
 have p:=u O;by_cases q:aE s.ak c.cf.kc<0
 ·have e:c.go now s (aE s.ak c.cf.kc)={ c with tries:=0 }:=by unfold Cn.go;rw[L7 O]
  have n:=ok.tail b hs ho g.2;rw[e]at n|-;refine SI.D8 (SI.qb (SI.store (h.same { c with tries:=0 } Z Z Z Z Z Z Z Z Z) now s off) now s off) n b (fun _=> ?_);rw[uC];show 1<=(Cn.store { c with tries:=0 } now s off).sc.fM;rw[qc];exact p
 exact h.tail ok b hs ho O O g.2 O K9
theorem stray (h:SI k c)(ok:c.Ok){now:Int}(j:aI now){s:Sg}(hs:s.Ok)(u:U1 c)(m:fj k s):jN k (c.stray now s):=by
 have e:=h.kc;have q:=bP s.ak c.cf.kc;have n:=ok.fM;unfold Cn.stray;dsimp only
 have h1:Cn.Ok (if bU c.st=true/\s.has=true/\s.syn=false/\c.fM<=aE s.ak c.cf.kc/\aE s.ak c.cf.kc<=c.next then c.go now s (aE s.ak c.cf.kc)else c)/\SI k (if bU c.st=true/\s.has=true/\s.syn=false/\c.fM<=aE s.ak c.cf.kc/\aE s.ak c.cf.kc<=c.next then c.go now s (aE s.ak c.cf.kc)else c)/\U1 (if bU c.st=true/\s.has=true/\s.syn=false/\c.fM<=aE s.ak c.cf.kc/\aE s.ak c.cf.kc<=c.next then c.go now s (aE s.ak c.cf.kc)else c):=by
  split
  ·rename_i l;have o:3<=c.st:=by have:=l.1;unfold bU at this;have:=LJ this;omega
   have r:=u o;obtain⟨p,t⟩:=h.go now s (ack:=aE s.ak c.cf.kc) O l.2.2.2.2 hs.win.1 (by rw[e];exact m.ack l.2.1 l.2.2.1 (by rw[<-e];omega));exact⟨(ok.go j hs O).1,p,fun _=>by omega⟩
  exact⟨ok,h,u⟩
 generalize (if bU c.st=true/\s.has=true/\s.syn=false/\c.fM<=aE s.ak c.cf.kc/\aE s.ak c.cf.kc<=c.next then c.go now s (aE s.ak c.cf.kc)else c)=a at h1|-;obtain⟨f,g,i⟩:=h1
 have h2:Cn.Ok (if a.st=9/\s.fin=true then { a with per:=.wA now 60 }else a)/\SI k (if a.st=9/\s.fin=true then { a with per:=.wA now 60 }else a)/\U1 (if a.st=9/\s.fin=true then { a with per:=.wA now 60 }else a):=by
  split
  ·exact⟨{ f with per:=Al.zv j D D },g.same _ Z Z Z Z Z Z Z Z Z,i⟩
  exact⟨f,g,i⟩
 generalize (if a.st=9/\s.fin=true then { a with per:=.wA now 60 }else a)=b at h2|-;obtain⟨f,g,i⟩:=h2;split
 ·exact g.gB.D8 f.gB j i
 exact g.D8 f j i
theorem meet (h:SI k c){s:Sg}(hs:s.Ok)(hy:s.syn=true)(e:fj k s):SI k (c.meet s):=by
 have h1:=h.announce (a:=1) (w:=s.win) (by have:=h.Fz;rcases(show c.fM<=1\/1<=c.fM by omega)with g | g;exact .inl g;exact .inr (this g)) hs.win.1 (by have:=e.2 hy;omega);have f:=h.gi;have b:SI k { c.announce 1 s.win with tq:=s.sq,iu:=s.iu }:=h1.same _ Z Z Z Z Z Z Z Z Z;exact⟨b.b1,b.held,b.last,b.nl,b.sh,b.bu,b.n1,b.kc,b.sm,b.lim,b.Fz,b.dat,by show min c.gi _<=k.m;omega,b.room⟩
theorem xs (h:SI k c)(ok:c.Ok){now:Int}(g:aI now){s:Sg}(hs:s.Ok)(h1:c.st=1)(q:fj k s):jN k (c.xs now s):=by
 have i:U1 c:=fun p=>by omega
 have r:=ok.fM;unfold Cn.xs;split
 ·split
  ·exact⟨h,Cn.Ok.all_nil,i⟩
  exact⟨h,Cn.Ok.BT (h.reset ok _),i⟩
 split
 ·exact⟨h.finish _ _ _,Cn.Ok.all_nil,.zero (dB c now _ (.inl Z))⟩
 split
 ·exact⟨h,Cn.Ok.all_nil,i⟩
 rename_i hy;have hy:s.syn=true:=Jm
 have f:=(ok.meet hs hy).D9;have b:SI k { c.meet s with tries:=0 }:=(h.meet hs hy q).same _ Z Z Z Z Z Z Z Z Z;have j:(c.meet s).st=1:=h1;dsimp only;split
 ·have e:(Cn.step { c.meet s with tries:=0 } now 2).st=2:=by
   rw[Cn.Ad];show(match gb (c.meet s).st 2 with | none=>(c.meet s).st | some n=>n)=2;rw[j];rfl
  have t:∀x:Cn,x.v6.st=x.st:=fun x=>by unfold Cn.v6;split <;> rfl
  exact⟨(b.step now 2).v6,Cn.Ok.BT ((b.step now 2).syn (f.step g J0 2)),fun p=>by rw[t,e]at p;omega⟩
 obtain⟨m,o⟩:=mQ (c.meet s).sc (a:=1) D (by show 1<=c.next;exact h.n1) (l:=[]) (fun x u=>nomatch u)
 have hA:SI k { ({ c.meet s with tries:=0 }:Cn)with sc:=(c.meet s).sc.go 1 [],tm:=(c.meet s).tm.go now 1 } :=
  b.D7 ((c.meet s).sc.go 1 []) (by show c.sc.fM<=_;rw[m];show c.sc.fM<=max c.sc.fM 1;omega) (by show c.sc.next<=_;rw[o];exact L9 _) (by rw[o];exact h.nl) _ Z Z Z Z Z Z Z Z (fun _=>by(rw[m];have:=b.lim;have w:(c.meet s).limit=max c.limit (1+s.win):=Z;have:=hs.win;have:=h.Fz;show max c.sc.fM 1<=(c.meet s).limit;have y:c.sc.fM=c.fM:=Z;omega)) (by rw[o];exact b.dat)
 refine SI.D8 (((hA.step now 3).same _ Z Z Z Z Z Z Z Z rfl:SI k { Cn.step { ({ c.meet s with tries:=0 }:Cn)with sc:=(c.meet s).sc.go 1 [],tm:=(c.meet s).tm.go now 1 } now 3 with dl:=eG }).gB) (Cn.Ok.Eo (Cn.Ok.step ((f.D7 (f.sc.go 1 [])).Dk (Tm.v8 f.tm now 1)) g J0 3) eD).gB g (fun _=> ?_);show 1<=(Cn.step { ({ c.meet s with tries:=0 }:Cn)with sc:=(c.meet s).sc.go 1 [],tm:=(c.meet s).tm.go now 1 } now 3).fM;rw[pH];show 1<=((c.meet s).sc.go 1 []).fM;rw[m];show 1<=max c.sc.fM 1;omega
theorem receive (h:SI k c)(ok:c.Ok){now:Int}(a:aI now){s:Sg}(hs:s.Ok)(u:U1 c)(b:fj k s):jN k (c.receive now s):=by
 have f:=bP s.sq (aw c.tq 1);unfold Cn.receive;split
 ·exact⟨h,Cn.Ok.all_nil,u⟩
 rename_i h0;split
 ·exact⟨h,Cn.Ok.all_nil,u⟩
 split
 ·rename_i h1;exact h.xs ok a hs h1 b
 rename_i h1;have g:=ok.st;unfold Cn.ys;dsimp only;split
 ·exact⟨h.finish _ _ _,Cn.Ok.all_nil,.zero (dB c now _ (.inl Z))⟩
 split
 ·exact⟨h,Cn.Ok.all_nil,u⟩
 split
 ·exact h.stray ok a hs u b
 split
 ·exact h.gB.D8 ok.gB a u
 split
 ·exact⟨h,Cn.Ok.all_nil,u⟩
 rename_i e i;exact h.process ok a hs f u O b Jl (by cases j:s.syn with | false=>rfl | true=>exact absurd (.inr j) e)
theorem oi (h:SI k c)(ok:c.Ok){now:Int}(e:aI now)(u:U1 c)(l:List Sg)(hl:∀x∈l,GS k x):jN k (c.oi now l):=by
 have a:∀{d:Cn},jN k (d.push now)->jN k ((d.push now).1,l++(d.push now).2):=fun k=>⟨k.1,fun x b=>by
  rcases LE.1 b with b | b
  ·exact hl x b
  exact k.2.1 x b,k.2.2⟩
 unfold Cn.oi;dsimp only;split
 ·exact a (h.gB.D8 ok.gB e u)
 exact a (h.D8 ok e u)
theorem expire (h:SI k c)(ok:c.Ok)(u:U1 c)(a:3<=c.st):jN k c.expire:=by
 have f:=ok.fM;unfold Cn.expire;split
 ·exact⟨h.same _ Z Z Z Z Z Z Z Z Z,Cn.Ok.all_nil,u⟩
 split
 ·exact⟨h,Cn.Ok.all_nil,u⟩
 rename_i h0;have m:=ok.gi;rename_i g;have o:c.iq=max 0 (c.last-c.next):=Z;have p:c.flight=c.next-c.fM:=Z;have q:=h.Fz (u a);obtain⟨i,j,l⟩:=h.out ok 0 (n:=max 1 (min (min c.gi (c.limit-c.next)) c.iq)) O O O O;refine⟨i.same _ Z Z Z Z Z Z Z Z Z,Cn.Ok.BT l,fun a=> ?_⟩;have b:(c.nY (max 1 (min (min c.gi (c.limit-c.next)) c.iq))).st=c.st:=(gv c false).1;rw[b]at a;have e:(c.nY (max 1 (min (min c.gi (c.limit-c.next)) c.iq))).fM=c.fM:=j;rw[e];exact u a
theorem tick (h:SI k c)(ok:c.Ok){now:Int}(e:aI now)(u:U1 c):jN k (c.tick now):=by
 unfold Cn.tick;split
 ·exact⟨h,Cn.Ok.all_nil,u⟩
 rename_i h0;have l:=ok.tr2 h0;split
 ·exact⟨h.finish _ _ _,Cn.Ok.all_nil,.zero (dB c now _ (.inr Z))⟩
 split
 ·dsimp only;split
  ·exact⟨(h.same { c with tries:=c.tries+1 } Z Z Z Z Z Z Z Z Z).finish _ _ _,Cn.Ok.all_nil,.zero (dB _ now _ (.inr Z))⟩
  rename_i m
  have f:0<=c.tm.og.ka.value/\c.tm.og.ka.value<=1000:=by
   have h1:=c.tm.og.ka.CM;have h2:(0:Int)<=c.tm.og.ka.base*2 ^ c.tm.og.ka.backs.toNat:=MS O (Nf D);unfold Tm.value;omega
  have he:Cn.Ok { c with tries:=c.tries+1,tm:=c.tm.og.ka,dl:=.wA now c.tm.og.ka.value } :=
   { ok with tr:=by have:=ok.tr;dsimp only;omega,tr2:=fun _=>by dsimp only;omega,tm:=Tm.zw (Tm.tv ok.tm),dl:=Al.zv e f.1 f.2 }
  have hi:SI k { c with tries:=c.tries+1,tm:=c.tm.og.ka,dl:=.wA now c.tm.og.ka.value }:=h.same _ Z Z Z Z Z Z Z Z Z;split
  ·rename_i a;obtain⟨i,b,j⟩:=hi.expire he u (by unfold bU at a;have:=LJ a;exact this.1);exact i.oi he.expire e j _ b
  exact⟨hi.v6,Cn.Ok.BT (hi.syn he),fun g=>by
   have b:∀x:Cn,x.v6.st=x.st/\x.v6.fM=x.fM:=fun x=>by unfold Cn.v6;split <;> exact⟨Z,Z⟩
   rw[(b _).2];rw[(b _).1]at g;exact u g⟩
 exact h.oi ok e u _ Cn.Ok.all_nil
theorem send (h:SI k c)(ok:c.Ok){now:Int}(i:aI now)(u:U1 c)(x:List UInt8)(l:c.last+x.length<=1073741824)(hr:c.refusal=0)(a:(k.S++x.take (c.nX x).toNat).length<=1000):jN { k with S:=k.S++x.take (c.nX x).toNat } (c.send now x):=by
 unfold Cn.send;rw[L5 O]
 have b:c.shut=false:=by
  unfold Cn.refusal at hr;split at hr
  ·unfold Cn.failure at hr;split at hr <;> omega
  split at hr
  ·rename_i j;exact j.1
  cases hr
 have m:=h.len;have n:=h.last;have e:=h.b1;have f:=h.nl;rw[b,L5 D]at f;have el:Cn.last { c with held:=c.held++x.take (c.nX x).toNat }=c.last+(x.take (c.nX x).toNat).length:=by unfold Cn.last;dsimp only;rw[La];omega
 have o:=h.dat;have g:(c.base-1).toNat<=k.S.length:=O
 have k:SI { k with S:=k.S++x.take (c.nX x).toNat } { c with held:=c.held++x.take (c.nX x).toNat }:=by
  refine⟨e,?_,?_,?_,h.sh,h.bu,h.n1,h.kc,a,h.lim,h.Fz,by rw[el];show min c.next _<=c.limit+1;omega,h.gi,h.room⟩
  ·show c.held++_=_;rw[h.held,List.drop_append_of_le_length g]
  ·rw[el,La];omega
  rw[el];show c.next<=_;omega
 refine SI.D8 k { ok with b1:= ?_ } i u;rw[el,Le];omega
theorem recv (h:SI k c)(ok:c.Ok){now:Int}(b:aI now)(u:U1 c)(n:Int):jN k (c.recv now n):=by
 have a:SI k { c with bx:=c.bx.take n }:=h.same _ Z Z Z Z Z Z Z Z Z;unfold Cn.recv;split
 ·exact⟨h,Cn.Ok.all_nil,u⟩
 dsimp only;split
 ·exact⟨a,Cn.Ok.all_nil,u⟩
 split
 ·exact⟨a,Cn.Ok.all_nil,u⟩
 exact a.gB.D8 (ok.take n).gB b u
theorem close (h:SI k c)(ok:c.Ok){now:Int}(a:aI now)(u:U1 c)(he:c.te=0):jN { k with cl:=true } (c.close now):=by
 have g:¬(c.st=0\/c.shut=true):=fun i=>by unfold Cn.te at he;rw[L7 i]at he;cases he
 have hs:Cn.Ok { c with shut:=true }:={ ok with };have h0:c.st≠0:=fun e=>g (.inl e);have b:=h.nl;have f:SI { k with cl:=true } { c with shut:=true }:=⟨h.b1,h.held,h.last,by show c.next<=c.last+_;split at b <;> simp <;> omega,fun _=>rfl,h.bu,h.n1,h.kc,h.sm,h.lim,h.Fz,h.dat,h.gi,h.room⟩;unfold Cn.close;rw[L5 g];dsimp only;split
 ·rename_i h1;refine⟨f.finish _ _ _,Cn.Ok.all_nil,.zero ?_⟩;show(Cn.step { c with shut:=true } now 5).st=0;rw[Cn.Ad];dsimp only;rw[h1];rfl
 split
 ·exact f.D8 hs a u
 rename_i h1 h2;have j:=ok.st;refine SI.D8 (f.step now 5) (hs.step a (ok.tr2 h0) _) a (fun _=> ?_);rw[pH];exact u (by show 3<=c.st;omega)
end SI
structure Fx (c d:Cn):Prop where
 bx:d.bx=c.bx
 tq:d.tq=c.tq
 ended:d.ended=c.ended
 ox:d.ox=c.ox
theorem Fx.refl (c:Cn):Fx c c:=⟨Z,Z,Z,Z⟩
theorem Fx.trans {c d e:Cn}(h:Fx c d)(k:Fx d e):Fx c e:=⟨k.bx.trans h.bx,k.tq.trans h.tq,k.ended.trans h.ended,k.ox.trans h.ox⟩
theorem ji (c:Cn)(b:Bool):Fx c (c.qG b):=by unfold Cn.qG;split <;> exact⟨Z,Z,Z,Z⟩
theorem pI (c:Cn):Fx c c.v6:=by unfold Cn.v6;split <;> exact⟨Z,Z,Z,Z⟩
theorem cJ (c:Cn)(now e:Int):Fx c (c.step now e):=by unfold Cn.step;split;exact .refl c;split <;> exact⟨Z,Z,Z,Z⟩
theorem cR (c:Cn)(now e a:Int):Fx c (c.finish now e a):=(cJ c now e).trans ⟨Z,Z,Z,Z⟩
theorem ii (c:Cn)(n:Int):Fx c (c.nY n):=(ji c false).trans ⟨Z,Z,Z,Z⟩
theorem sL (c:Cn)(now n:Int):Fx c (c.out now n):=(ii c n).trans ⟨Z,Z,Z,Z⟩
theorem xz (n:Nat):∀(c:Cn) (l:List Sg),Fx c (n7 n c l).1:=by
 induction n with
 | zero=>exact fun c l=>.refl c
 | succ n a =>
  intro c l;unfold n7;split
  ·split
   ·exact .refl c
   split
   ·refine Fx.trans ?_ (a _ _);exact(ji c false).trans ⟨Z,Z,Z,Z⟩
   exact(ji c false).trans ⟨Z,Z,Z,Z⟩
  exact .refl c
theorem yA (now:Int)(n:Nat):∀(c:Cn) (l:List Sg),Fx c (kr now n c l).1:=by
 induction n with
 | zero=>exact fun c l=>.refl c
 | succ n a =>
  intro c l;unfold kr;split
  ·exact(sL c now _).trans (a _ _)
  exact .refl c
theorem A6 (now:Int)(c:Cn)(l:List Sg):Fx c (ug now c l).1:=by
 unfold ug;split
 ·exact sL c now 0
 exact .refl c
theorem yB (c:Cn)(now:Int):Fx c (c.o6 now).1:=by
 unfold Cn.o6;exact((xz _ c []).trans (yA now _ _ _)).trans (A6 now _ _)
theorem qd (c:Cn)(l:List Sg):Fx c (c.qD l).1:=by
 unfold Cn.qD;split
 ·exact ji c false
 exact .refl c
theorem mS (c:Cn)(now:Int):Fx c (c.lp now):=by
 unfold Cn.lp;split
 ·exact⟨Z,Z,Z,Z⟩
 split <;> exact⟨Z,Z,Z,Z⟩
theorem bA (c:Cn)(now:Int):Fx c (c.push now).1:=by
 unfold Cn.push;split
 ·exact .refl c
 dsimp only;split
 ·exact((yB c now).trans (qd _ _)).trans (mS _ now)
 exact(qd c _).trans (mS _ now)
theorem eP (c:Cn)(now:Int)(s:Sg)(ack:Int):Fx c (c.go now s ack):=by
 unfold Cn.go;split
 ·exact⟨Z,Z,Z,Z⟩
 dsimp only
 have h1:Fx c (if c.fM<ack then(if 0<ack-max c.fM 1 then({ ({ c with tries:=0 }:Cn).report ack s.bl with dl:=eG,tm:=(({ c with tries:=0 }:Cn).report ack s.bl).tm.go now ack,cg:=(({ c with tries:=0 }:Cn).report ack s.bl).cg.go (ack-max c.fM 1) ack }:Cn)else { ({ c with tries:=0 }:Cn).report ack s.bl with dl:=eG,tm:=(({ c with tries:=0 }:Cn).report ack s.bl).tm.go now ack }).drop ack else({ c with tries:=0 }:Cn).report ack s.bl):=by
  split
  ·split <;> exact⟨Z,Z,Z,Z⟩
  exact⟨Z,Z,Z,Z⟩
 generalize (if c.fM<ack then(if 0<ack-max c.fM 1 then({ ({ c with tries:=0 }:Cn).report ack s.bl with dl:=eG,tm:=(({ c with tries:=0 }:Cn).report ack s.bl).tm.go now ack,cg:=(({ c with tries:=0 }:Cn).report ack s.bl).cg.go (ack-max c.fM 1) ack }:Cn)else { ({ c with tries:=0 }:Cn).report ack s.bl with dl:=eG,tm:=(({ c with tries:=0 }:Cn).report ack s.bl).tm.go now ack }).drop ack else({ c with tries:=0 }:Cn).report ack s.bl)=a at h1|-
 have h2:Fx c (if 0<c.Ct ack s.bl/\(a.announce ack s.win).mark<=ack/\(a.announce ack s.win).sc.lost (a.announce ack s.win).gi≠[]then { a.announce ack s.win with cg:=(a.announce ack s.win).cg.lost c.flight (a.announce ack s.win).next }else a.announce ack s.win):=by
  split <;> exact h1.trans ⟨Z,Z,Z,Z⟩
 generalize (if 0<c.Ct ack s.bl/\(a.announce ack s.win).mark<=ack/\(a.announce ack s.win).sc.lost (a.announce ack s.win).gi≠[]then { a.announce ack s.win with cg:=(a.announce ack s.win).cg.lost c.flight (a.announce ack s.win).next }else a.announce ack s.win)=d at h2|-;split
 ·exact h2.trans (cJ d now 7)
 exact h2
structure RB (S:List UInt8)(cl:Bool)(c:Cn)(got:List UInt8):Prop where
 pi:PI S S.length c.bx got
 en:c.ended=true->cl=true/\c.ox=S.length
def Ir (kc:Int)(c:Cn):Prop:=c.st=0\/c.st=1\/c.tq=kc
namespace RB
variable {S S' : List UInt8} {cl cl' : Bool} {kc : Int} {c d : Cn} {got : List UInt8}
theorem fx (h:RB S cl c got)(f:Fx c d):RB S cl d got:=⟨by rw[f.bx];exact h.pi,by rw[f.ended,f.ox];exact h.en⟩
theorem gw (h:RB S cl c got)(g:(S'=S/\(cl=true->cl'=true))\/(cl=false/\∃x,S'=S++x))(hl:S'.length<=1000):RB S' cl' c got:=by
 have a:=h.pi
 rcases g with⟨rfl,e⟩ | ⟨rfl,x,rfl⟩
 ·exact⟨a,fun he=>⟨e (h.en he).1,(h.en he).2⟩⟩
 have f:=a.EE;refine⟨⟨a.ok,Z,hl,fun i hi b=> ?_,a.rd,?_,fun i hi=> ?_⟩,fun he=>by have:=(h.en he).1;cases this⟩
 ·rw[a.str i hi b,Mj (by have:=a.has i b;omega)]
 ·rw[List.take_append_of_le_length f];exact a.got
 have:=a.has i hi;rw[La];omega
theorem insert (h:RB S cl c got){x:List UInt8}{o:Nat}(hx:x≠[]->x=(S.drop o).take x.length/\o+x.length<=S.length):RB S cl (c.insert o x) got:=by
 have a:∀y:List UInt8,y≠[]->y=x.take y.length->y.length<=x.length->PI S S.length (c.bx.put (max (o:Int) 0) y) got:=by
  intro y hy e f
  have b:x≠[]:=by
   rintro rfl
   simp at e
   exact hy e
  obtain⟨g,i⟩:=hx b;rw[show max (o:Int) 0=(o:Int) by omega];refine(h.pi.put (off:=o) (to:=o+y.length) O O ?_).1;rw[Nat.add_sub_cancel_left]
  conv=>lhs;rw[e,g,Nt,Nat.min_eq_left f]
 refine⟨?_,h.en⟩;show PI S S.length (c.uf o x) got;unfold Cn.uf;split
 ·exact h.pi
 rename_i hy
 have e:n8 c.ended c.ox o x=(if c.ended=true then x.take (min (max (c.ox-o) 0) x.length).toNat else x):=by
  unfold n8;rw[L5 (show ¬(o:Int)<0 by omega),MH]
 refine a _ hy ?_ ?_
 ·rw[e];split
  ·rw[Le,<-Nt,Nt]
   congr 1
   omega
  rw[LS]
 rw[e];split
 ·rw[Le];omega
 exact L4 _
theorem store (h:RB S cl c got)(now:Int){s:Sg}{o:Nat}(hx:s.s≠[]->s.s=(S.drop o).take s.s.length/\o+s.s.length<=S.length):RB S cl (c.store now s o) got:=by
 unfold Cn.store;split
 ·exact h
 split
 ·split
  ·refine(h.insert hx).fx ?_;unfold Cn.rl;split <;> exact⟨Z,Z,Z,Z⟩
  exact(h.insert hx).fx ⟨Z,Z,Z,Z⟩
 exact h.fx ⟨Z,Z,Z,Z⟩
theorem qb (h:RB S cl c got)(now:Int){s:Sg}{o:Nat}(hx:s.fin=true->cl=true/\o+s.s.length=S.length):RB S cl (c.qb now s o) got:=by
 unfold Cn.qb;dsimp only
 have h1:RB S cl (if s.fin=true/\aV c.st=true/\c.ended=false/\c.bx.nx<=(o:Int)+s.s.length then { c with ended:=true,ox:=(o:Int)+s.s.length }else c) got:=by
  split
  ·rename_i a;have:=hx a.1;exact⟨h.pi,fun _=>⟨this.1,by show(o:Int)+s.s.length=S.length;omega⟩⟩
  exact h
 generalize (if s.fin=true/\aV c.st=true/\c.ended=false/\c.bx.nx<=(o:Int)+s.s.length then { c with ended:=true,ox:=(o:Int)+s.s.length }else c)=d at h1|-;split
 ·exact h1.fx ((show Fx d { d with over:=true }from⟨Z,Z,Z,Z⟩).trans ((cJ _ now 6).trans ⟨Z,Z,Z,Z⟩))
 exact h1
end RB
end
structure Carry (d:Cn)(s:Sg):Prop where
 has:s.has=true
 syn:s.syn=false
 qa:s.qa=false
 ak:s.ak=d.number d.expected
 win:s.win=d.ann-d.bx.nx
theorem ks {c:Cn}(a:c.bx.nx<=c.most):c.ann<=c.raised c.gi/\c.bx.nx<=c.raised c.gi:=by
 unfold Cn.raised;split
 ·rename_i h;unfold Cn.tE at h;have:=LJ h;omega
 omega
theorem qe {c d:Cn}(a:c.bx.nx<=c.most)(ha:d.ann=c.raised c.gi)(h1:d.bx=c.bx)(h2:d.gi=c.gi)(b:d.room=c.room):d.raised d.gi=d.ann:=by
 have e:d.most=c.most:=by unfold Cn.most;rw[h1]
 have k:=ks a
 have f:d.tE d.gi=false:=by
  unfold Cn.tE
  apply Lf
  rw[ha,h2,b,e];unfold Cn.raised;split
  ·omega
  rename_i h;unfold Cn.tE at h;have h2:=Nb (by simpa using h:decide (c.ann<c.most/\min c.gi (c.room/2)<=c.most-c.ann)=false);omega
 unfold Cn.raised;rw[L5 (by rw[f];decide),h1];omega
theorem cE {c d:Cn}(f:Fx c d):d.expected=c.expected/\d.number d.expected=c.number c.expected:=by
 have e:d.expected=c.expected:=by unfold Cn.expected Cn.reached;rw[f.bx,f.ended,f.ox]
 refine⟨e,?_⟩;rw[e];unfold Cn.number;rw[f.tq]
theorem Carry.fx {c d:Cn}{s:Sg}(h:Carry c s)(f:Fx c d)(ha:d.ann=c.ann):Carry d s :=
 ⟨h.has,h.syn,h.qa,h.ak.trans (cE f).2.symm,by rw[h.win,ha,f.bx]⟩
structure Said (c d:Cn)(l:List Sg):Prop where
 fx:Fx c d
 gi:d.gi=c.gi
 room:d.room=c.room
 k:(l=[]/\d.ann=c.ann/\d.pend=c.pend/\d.pd=c.pd)\/(l≠[]/\d.pend=0/\d.ann=c.raised c.gi/\∀s∈l,Carry d s)
theorem Said.refl (c:Cn):Said c c []:=⟨.refl c,Z,Z,.inl ⟨Z,Z,Z,Z⟩⟩
theorem Said.raised {c d:Cn}{l:List Sg}(h:Said c d l)(a:c.bx.nx<=c.most):d.raised d.gi=c.raised c.gi:=by
 rcases h.k with⟨-,h1,-,-⟩ | ⟨-,-,h1,-⟩
 ·unfold Cn.raised Cn.tE Cn.most;rw[h1,h.fx.bx,h.gi,h.room]
 rw[qe a h1 h.fx.bx h.gi h.room,h1]
theorem sM (c:Cn)(g:Sg)(off:Int)(a:g.syn=false)(hr:g.qa=false)(d:Cn)(f:Fx c d)(ha:d.ann=c.raised c.gi):Carry d (c.qE g off):=by
 obtain⟨e,b⟩:=cE f;unfold Cn.qE;rw[L5 (by rw[a];decide)];exact⟨Z,a,hr,b.symm,by rw[ha,f.bx]⟩
theorem Said.more {c d:Cn}{l:List Sg}(h:Said c d l)(b:c.bx.nx<=c.most)(g:Sg)(off:Int)(i:g.syn=false)(hr:g.qa=false)(e:Cn)(f:Fx d e)(he:e.pend=0/\e.ann=d.raised d.gi/\e.gi=d.gi/\e.room=d.room):Said c e (l++[d.qE g off]):=by
 have a:=h.raised b;refine⟨h.fx.trans f,he.2.2.1.trans h.gi,he.2.2.2.trans h.room,.inr ⟨FE,he.1,by rw[he.2.1,a],fun s hs=> ?_⟩⟩
 rcases LE.1 hs with hs | hs
 ·rcases h.k with⟨h1,-⟩ | ⟨-,-,j,m⟩
  ·rw[h1]at hs;cases hs
  exact(m s hs).fx f (by rw[he.2.1,a,j])
 rw[Lu.1 hs];exact sM d g off i hr e f he.2.1
theorem Said.trans {c d e:Cn}{l m:List Sg}(h:Said c d l)(k:Said d e m)(o:c.bx.nx<=c.most):Said c e (l++m):=by
 have n:=h.raised o;refine⟨h.fx.trans k.fx,k.gi.trans h.gi,k.room.trans h.room,?_⟩
 rcases k.k with⟨i,a,b,j⟩ | ⟨i,a,b,j⟩
 ·rw[i,LM]
  rcases h.k with⟨h1,h2,f,g⟩ | ⟨h1,h2,f,g⟩
  ·exact .inl ⟨h1,a.trans h2,b.trans f,j.trans g⟩
  exact .inr ⟨h1,b.trans h2,a.trans f,fun s hs=>(g s hs).fx k.fx a⟩
 refine .inr ⟨by simp[i],a,by rw[b,n],fun s hs=> ?_⟩
 rcases LE.1 hs with hs | hs
 ·rcases h.k with⟨h1,-⟩ | ⟨-,-,f,g⟩
  ·rw[h1]at hs;cases hs
  exact(g s hs).fx k.fx (by rw[b,n,f])
 exact j s hs
theorem qf {c:Cn}(ok:c.Ok){x:Sp}{t:List Sp}(hl:c.sc.lost c.gi=x::t) :
  c.sc.DY (aK c.gi x)=0/\c.fM<=x.1/\x.1<(aK c.gi x).2/\(aK c.gi x).2<=x.2/\x.2<=c.next/\(aK c.gi x).2<=x.1+c.gi/\({ c.qn with sc:=c.sc.ret (aK c.gi x),tm:=c.tm.og }:Cn).Ok:=by
 have i:=ok.gi;have b:x∈c.sc.lost c.gi:=by rw[hl];simp
 obtain⟨e,f,g,-⟩:=dz ok.sc (m:=c.gi) (by omega) b;unfold ib at e;have a:(aK c.gi x).2=min x.2 (x.1+c.gi):=Z;obtain⟨h,-,-⟩:=mL ok.sc (m:=c.gi) (by omega) b (x:=aK c.gi x) Z (by rw[a];show x.1<_;omega) (by rw[a];omega);exact⟨by unfold Sc.DY;rw[L7 h],f,by omega,by omega,g,by omega,(ok.qn.D7 (ok.sc.ret _)).Dk (Tm.tv ok.tm)⟩
theorem ee {c:Cn}(ok:c.Ok):c.bx.nx<=c.most:=by have:=ok.bx.Ck;unfold Cn.most;omega
theorem sN (n:Nat):∀{c0 c:Cn} (l:List Sg),c0.bx.nx<=c0.most->c.Ok->Said c0 c l->Said c0 (n7 n c l).1 (n7 n c l).2:=by
 induction n with
 | zero=>intro c0 c l _ _ h;exact h
 | succ n b =>
  intro c0 c l a ok h;unfold n7;split
  ·cases hl:c.sc.lost c.gi with
   | nil=>exact h
   | cons x t =>
    dsimp only;obtain⟨h1,-,-,-,-,-,h2⟩:=qf ok hl;rw[L7 h1];exact b _ a h2 (h.more a _ _ Z Z { c.qn with sc:=c.sc.ret (aK c.gi x),tm:=c.tm.og } ⟨Z,Z,Z,Z⟩ ⟨Z,Z,Z,Z⟩)
  exact h
theorem qh {c0 c:Cn}{l:List Sg}(h:Said c0 c l)(a:c0.bx.nx<=c0.most)(now n:Int):Said c0 (c.out now n) (l++[c.kl n]) :=
 h.more a { dH with s:=c.data c.next (c.kn n),fin:=c.shut&&decide (c.last<c.kn n) } c.next Z Z (c.out now n) (sL c now n) ⟨Z,Z,Z,Z⟩
theorem sO {now:Int}(b:aI now)(n:Nat):∀{c0 c:Cn} (l:List Sg),c0.bx.nx<=c0.most->c.Ok->Said c0 c l->Said c0 (kr now n c l).1 (kr now n c l).2:=by
 induction n with
 | zero=>intro c0 c l _ _ h;exact h
 | succ n e =>
  intro c0 c l a ok h;unfold kr;split
  ·exact e _ a (ok.out b _) (qh h a now _)
  exact h
theorem sP {c:Cn}(ok:c.Ok){now:Int}(e:aI now):Said c (c.o6 now).1 (c.o6 now).2:=by
 unfold Cn.o6;dsimp only;have f:=sN (c.flight.toNat+1) [] (ee ok) ok (Said.refl c);have a:=Cn.Ok.n7 (c.flight.toNat+1) ok [];generalize n7 (c.flight.toNat+1) c []=r at f a|-;have b:=sO e (r.1.iq.toNat+1) r.2 (ee ok) a f;have g:=Cn.Ok.kr e (r.1.iq.toNat+1) a r.2;generalize kr now (r.1.iq.toNat+1) r.1 r.2=q at b g|-;unfold ug;split
 ·exact qh b (ee ok) now 0
 exact b
theorem pJ (c:Cn)(now:Int):(c.lp now).ann=c.ann/\(c.lp now).pend=c.pend/\(c.lp now).pd=c.pd/\(c.lp now).gi=c.gi/\(c.lp now).room=c.room:=by
 unfold Cn.lp;split
 ·exact⟨Z,Z,Z,Z,Z⟩
 split <;> exact⟨Z,Z,Z,Z,Z⟩
theorem Said.lp {c d:Cn}{l:List Sg}(h:Said c d l)(now:Int):Said c (d.lp now) l:=by
 obtain⟨a,g,i,j,m⟩:=pJ d now;have f:=mS d now;refine⟨h.fx.trans f,j.trans h.gi,m.trans h.room,?_⟩
 rcases h.k with⟨h1,h2,b,e⟩ | ⟨h1,h2,b,e⟩
 ·exact .inl ⟨h1,a.trans h2,g.trans b,i.trans e⟩
 exact .inr ⟨h1,g.trans h2,a.trans b,fun s hs=>(e s hs).fx f a⟩
theorem gL {c:Cn}(ok:c.Ok){now:Int}(a:aI now)(h0:c.st≠0):Said c (c.push now).1 (c.push now).2/\(c.push now).1.pend≠2:=by
 unfold Cn.push;rw[L5 h0];dsimp only
 have k:Said c (if ae c.st=true then c.o6 now else(c,[])).1 (if ae c.st=true then c.o6 now else(c,[])).2/\(if ae c.st=true then c.o6 now else(c,[])).1.Ok:=by
  split
  ·exact⟨sP ok a,ok.o6 a⟩
  exact⟨.refl c,ok⟩
 generalize (if ae c.st=true then c.o6 now else(c,[]))=r at k|-;obtain⟨k,o⟩:=k;unfold Cn.qD;split
 ·refine⟨Said.lp (k.more (ee ok) dH r.1.next Z Z (r.1.qG false) (ji r.1 false) ⟨Z,Z,Z,Z⟩) now,?_⟩;dsimp only;rw[(pJ _ now).2.1];show(0:Int)≠2
  decide
 rename_i b;refine⟨k.lp now,?_⟩;dsimp only;rw[(pJ _ now).2.1];exact b
def mR (s:Sg):Int:=if s.fin=true then 1 else 0
theorem lw (s:Sg):0<=mR s/\mR s<=1:=by unfold mR;split <;> omega
structure xa (c d:Cn)(l:List Sg):Prop where
 fM:d.fM=c.fM
 nx:c.next<=d.next
 held:d.held=c.held
 base:d.base=c.base
 lim:d.limit=c.limit
 AC:d.largest=c.largest
 shut:d.shut=c.shut
 cf:d.cf=c.cf
 st:d.st=c.st
 gi:d.gi=c.gi
 Gt:∀o,c.next<=o->o<d.next->o<c.last->∃s∈l,∃lo,s.sq=aw c.cf.kc lo/\lo<=o/\o<lo+s.s.length/\lo+s.s.length<=c.limit
 Gb:∀s∈l,∃lo,s.sq=aw c.cf.kc lo/\c.fM<=lo/\lo+s.s.length+mR s<=d.next
theorem xa.last {c d:Cn}{l:List Sg}(h:xa c d l):d.last=c.last:=by unfold Cn.last;rw[h.held,h.base]
theorem xa.refl (c:Cn):xa c c []:=⟨Z,L9 _,Z,Z,Z,Z,Z,Z,Z,Z,fun o h1 h2=>by omega,fun s hs=>by cases hs⟩
theorem vF (held:List UInt8)(base lo hi:Int):((mC held base lo hi).length:Int)=min (max (hi-base) (min (max (lo-base) 0) held.length)) held.length-min (max (lo-base) 0) held.length:=by
 unfold mC;rw[Lq,Le];omega
theorem iW {c:Cn}{lo hi:Int}(h1:c.base<=lo)(h2:lo<=hi):((c.data lo hi).length:Int)=min hi (max lo c.last)-lo\/(c.last<lo/\((c.data lo hi).length:Int)=0):=by
 have:=vF c.held c.base lo hi;unfold Cn.data Cn.last;omega
theorem xa.to {c d:Cn}{l:List Sg}(h:xa c d l)(e:Cn)(h1:e.sc.fM=d.sc.fM)(h2:e.sc.next=d.sc.next)(g:e.held=d.held)(i:e.base=d.base)(j:e.limit=d.limit)(m:e.largest=d.largest)(n:e.shut=d.shut)(p:e.cf=d.cf)(q:e.st=d.st)(f:e.gi=d.gi):xa c e l :=
 ⟨h1.trans h.fM,by show _<=e.sc.next;rw[h2];exact h.nx,g.trans h.held,i.trans h.base,j.trans h.lim,m.trans h.AC,n.trans h.shut,p.trans h.cf,q.trans h.st,f.trans h.gi,fun o a b=>h.Gt o a (by rw[<-show e.next=d.next from h2];exact b),fun s hs=>by rw[show e.next=d.next from h2];exact h.Gb s hs⟩
theorem xa.more {c d:Cn}{l:List Sg}(h:xa c d l)(e:Cn)(s:Sg)(lo:Int)(hs:s.sq=aw d.cf.kc lo)(h1:c.fM<=lo)(h2:lo+s.s.length+mR s<=e.next)
  (f:e.next=d.next\/(lo=d.next/\d.next<=e.next/\∀o,d.next<=o->o<e.next->o<d.last->o<lo+s.s.length/\lo+s.s.length<=c.limit))
  (k1:e.sc.fM=d.sc.fM)(q:e.held=d.held)(r:e.base=d.base)(t:e.limit=d.limit)(u:e.largest=d.largest)(w:e.shut=d.shut)(y:e.cf=d.cf)(z:e.st=d.st)(j:e.gi=d.gi):xa c e (l++[s]):=by
 have m:=h.cf;have A:=h.nx;refine⟨k1.trans h.fM,by rcases f with f | f <;> omega,q.trans h.held,r.trans h.base,t.trans h.lim,u.trans h.AC,w.trans h.shut,y.trans h.cf,z.trans h.st,j.trans h.gi,fun o a b n=> ?_,fun x i=> ?_⟩
 ·by_cases B:o<d.next
  ·obtain⟨x,i,g⟩:=h.Gt o a B n;exact⟨x,LO _ i,g⟩
  rcases f with f | ⟨F,G,C⟩
  ·omega
  have p:=C o O b (by rw[h.last];exact n);exact⟨s,FE,lo,by rw[hs,m],O,p.1,p.2⟩
 rcases LE.1 i with i | i
 ·obtain⟨lo,g1,E,I⟩:=h.Gb x i;exact⟨lo,g1,E,by rcases f with f | f <;> omega⟩
 rw[Lu.1 i];exact⟨lo,by rw[hs,m],h1,h2⟩
theorem jj (c:Cn)(lo hi:Int):(c.kZ lo hi).sq=aw c.cf.kc lo/\(c.kZ lo hi).s=c.data lo hi:=by
 have h:=gu c { dH with s:=c.data lo hi,fin:=c.shut&&decide (c.last<hi) } lo;exact⟨h.1,h.2.1⟩
theorem oD {c:Cn}{lo hi:Int}(h1:c.base<=lo)(h2:lo<=hi)(b:lo=hi->hi<=c.last):lo+(c.kZ lo hi).s.length+mR (c.kZ lo hi)<=hi:=by
 have h:=gu c { dH with s:=c.data lo hi,fin:=c.shut&&decide (c.last<hi) } lo;have a:(c.kZ lo hi).fin=(c.shut&&decide (c.last<hi)):=h.2.2.1;have e:=iW (c:=c) h1 h2;rw[(jj c lo hi).2];unfold mR;rw[a];split
 ·rename_i g;rw[Ly,Lh]at g;have:=g.2;omega
 omega
theorem sQ (n:Nat):∀{c0 c:Cn} (l:List Sg),c.Ok->c.base<=max c.fM 1->1<=c.fM->xa c0 c l->c0.next=c.next->xa c0 (n7 n c l).1 (n7 n c l).2/\(n7 n c l).1.next=c.next:=by
 induction n with
 | zero=>intro c0 c l _ _ _ h _;exact⟨h,Z⟩
 | succ n e =>
  intro c0 c l ok f i h j;unfold n7;split
  ·cases hl:c.sc.lost c.gi with
   | nil=>exact⟨h,Z⟩
   | cons x t =>
    dsimp only;obtain⟨h1,h2,u,w,y,z,m⟩:=qf ok hl;rw[L7 h1];obtain⟨o,f2⟩:=jj c x.1 (aK c.gi x).2;have A:=iW (c:=c) (lo:=x.1) (hi:=(aK c.gi x).2) O O;have B:x.1+((c.kZ x.1 (aK c.gi x).2).s.length:Int)<=c.next:=by rw[f2];omega
    have r:=xt c.sc (aK c.gi x);have b:(c.sc.ret (aK c.gi x)).next=c.next:=r.2;have a:(c.sc.ret (aK c.gi x)).fM=c.fM:=r.1;have k:=h.more { c.qn with sc:=c.sc.ret (aK c.gi x),tm:=c.tm.og } (c.kZ x.1 (aK c.gi x).2) x.1 o (by rw[<-h.fM];exact h2) (by show _<=(c.sc.ret (aK c.gi x)).next;rw[b];exact Lz (oD O O (fun g=>by omega)) O) (.inl b) r.1 Z Z Z Z Z Z Z Z;obtain⟨p,q⟩:=e (c0:=c0) (c:={ c.qn with sc:=c.sc.ret (aK c.gi x),tm:=c.tm.og }) (l++[c.kZ x.1 (aK c.gi x).2]) m (by show c.base<=max (c.sc.ret (aK c.gi x)).fM 1;rw[a];exact f) (by show 1<=(c.sc.ret (aK c.gi x)).fM;rw[a];exact i) k (by show _=(c.sc.ret (aK c.gi x)).next;rw[b];exact j);exact⟨p,q.trans b⟩
  exact⟨h,Z⟩
def B2 (c:Cn)(n:Int):Prop:=n=c.gi\/(n=c.iq/\(c.fM=c.next\/c.shut=true))\/c.largest<=2*n
theorem lO {c:Cn}(h:0<c.allowed):B2 c c.allowed/\c.allowed<=c.iq/\c.allowed<=c.gi/\c.next+c.allowed<=c.limit:=by
 unfold Cn.allowed at h|-;split at h
 ·omega
 split at h
 ·omega
 split at h
 ·rename_i h1 h2 a;rw[L5 h1,L5 h2,L7 a];refine⟨?_,O,O,O⟩
  rcases a with a | a | a
  ·exact .inl a
  ·exact .inr (.inl a)
  exact .inr (.inr a)
 omega
theorem fH {c:Cn}(ok:c.Ok){now n:Int}(h0:0<=n)(h1:c.next+n<=c.last):(c.out now n).next=c.kn n/\c.next+n<=c.kn n/\c.kn n<=c.next+n+1/\(c.kn n=c.next+n\/c.next+n=c.last):=by
 have b:=ok.b1;have a:c.next+n<=c.kn n/\c.kn n<=c.next+n+1/\(c.kn n=c.next+n\/c.next+n=c.last):=by unfold Cn.kn;split <;> omega
 refine⟨?_,a⟩;show(c.sc.sent (c.kn n)).next=_;unfold Sc.sent Sc.BV;have e:c.sc.next=c.next:=Z;rw[L7 (Lc ⟨O,O⟩)]
theorem vG {c:Cn}(ok:c.Ok)(a:c.base<=c.next){n:Int}(h0:0<=n)(h1:c.next+n<=c.last):((c.kl n).s.length:Int)=n:=by
 have b:=(fH ok (now:=0) h0 h1).2;rw[show(c.kl n).s=c.data c.next (c.kn n)from(jj c _ _).2];have:=iW (c:=c) (lo:=c.next) (hi:=c.kn n) a O;omega
theorem xa.out {c0 c:Cn}{l:List Sg}(h:xa c0 c l)(ok:c.Ok)(f:c.base<=c.next)(now:Int){n:Int}(h0:0<=n)(h1:c.next+n<=c.last)(h2:0<n->c.next+n<=c.limit):xa c0 (c.out now n) (l++[c.kl n]):=by
 obtain⟨e,m,p,q⟩:=fH ok (now:=now) h0 h1;have s:=vG ok f h0 h1;have i:=ok.fM;have r:=uB c.sc (c.kn n);refine h.more (c.out now n) (c.kl n) c.next (jj c _ _).1 (by rw[<-h.fM];exact i.2.1) (by rw[e];exact oD f O (fun g=>by omega)) (.inr ⟨Z,by rw[e];omega,fun o a b d=> ?_⟩) r.1 Z Z Z Z Z Z Z Z;rw[e]at b;have:=h.lim;have j:0<n:=O
 have:=h2 j;omega
structure Gc (c0 c:Cn):Prop where
 f:c.next=c0.next\/(∃n,0<n/\B2 c0 n/\n<=c0.iq/\c0.next+n<=c.next)\/(c0.next=c0.last/\c.next=c0.last+1)
theorem mT {now:Int}(b:aI now)(n:Nat):∀{c0 c:Cn} (l:List Sg),c.Ok->c.base<=c.next->xa c0 c l->xa c0 (kr now n c l).1 (kr now n c l).2/\c.base<=(kr now n c l).1.next:=by
 induction n with
 | zero=>intro c0 c l _ a h;exact⟨h,a⟩
 | succ n e =>
  intro c0 c l ok a h;unfold kr;split
  ·rename_i f;obtain⟨-,p,q,g⟩:=lO f;have i:c.iq=max 0 (c.last-c.next):=Z;have j:=fH ok (now:=now) (n:=c.allowed) O O;obtain⟨m,o⟩:=e (c0:=c0) (c:=c.out now c.allowed) (l++[c.kl c.allowed]) (ok.out b _) (by rw[j.1];show c.base<=_;omega) (h.out ok a now O O (fun _=>g));exact⟨m,o⟩
  exact⟨h,a⟩
theorem sR {now:Int}(a:aI now)(n:Nat):∀{c:Cn} (l:List Sg),c.Ok->c.base<=c.next->c.next<=(kr now n c l).1.next:=by
 intro c l ok b
 exact(mT a n (c0:=c) (c:=c) [] ok b (xa.refl c)).1.nx |> fun h=>by
  have e:∀(k:Nat) (c:Cn) (l m:List Sg),(kr now k c l).1=(kr now k c m).1:=by
   intro k
   induction k with
   | zero=>intros;rfl
   | succ k f=>intro c l m;unfold kr;split;exact f _ _ _;rfl
  rw[e n c l []];exact h
theorem vH {now:Int}(a:aI now)(n:Nat){c:Cn}(l:List Sg)(ok:c.Ok)(i:c.base<=c.next):(kr now n c l).1.next=c.next\/(∃m,0<m/\B2 c m/\m<=c.iq/\c.next+m<=(kr now n c l).1.next):=by
 cases n with
 | zero=>exact .inl Z
 | succ n =>
  unfold kr;split
  ·rename_i b;obtain⟨e,f,j,o⟩:=lO b;have g:c.iq=max 0 (c.last-c.next):=Z;have h:=fH ok (now:=now) (n:=c.allowed) O O;have p:=sR a n (l++[c.kl c.allowed]) (ok.out a c.allowed) (by rw[h.1];show c.base<=_;omega);exact .inr ⟨_,b,e,f,O⟩
  exact .inl Z
theorem Gc.of {c0 c:Cn}(h:c.next=c0.next\/(∃m,0<m/\B2 c0 m/\m<=c0.iq/\c0.next+m<=c.next)):Gc c0 c:=⟨h.imp id .inl⟩
structure F6 (c:Cn):Prop where
 u1:1<=c.fM
 bu:c.base<=c.fM
 nl:c.next<=c.last+(if c.shut=true then 1 else 0)
theorem B2.congr {c d:Cn}(h1:d.gi=c.gi)(h2:d.iq=c.iq)(a:d.fM=c.fM)(b:d.next=c.next)(e:d.shut=c.shut)(f:d.largest=c.largest){n:Int}(h:B2 d n):B2 c n:=by
 unfold B2 at h|-;rw[h1,h2,a,b,e,f]at h;exact h
theorem mU {c:Cn}(ok:c.Ok)(so:F6 c){now:Int}(o:aI now):xa c (c.o6 now).1 (c.o6 now).2/\Gc c (c.o6 now).1:=by
 unfold Cn.o6;dsimp only;have z:=ok.fM;have A:=so.bu;obtain⟨a,b⟩:=sQ (c.flight.toNat+1) [] ok O so.u1 (xa.refl c) Z;have l:=Cn.Ok.n7 (c.flight.toNat+1) ok [];generalize n7 (c.flight.toNat+1) c []=r at a l b|-;obtain⟨e,g⟩:=mT o (r.1.iq.toNat+1) r.2 l (by rw[a.base,b];omega) a;have i:=vH o (r.1.iq.toNat+1) r.2 l (by rw[a.base,b];omega);have p:=Cn.Ok.kr o (r.1.iq.toNat+1) l r.2;have j:r.1.iq=c.iq:=by unfold Cn.iq;rw[a.last,b]
 have s:Gc c (kr now (r.1.iq.toNat+1) r.1 r.2).1:=.of (by
  rw[b]at i
  rcases i with i | ⟨m,h1,h2,t,u⟩
  ·exact .inl i
  ·exact .inr ⟨m,h1,h2.congr a.gi j a.fM b a.shut a.AC,by rw[<-j];exact t,u⟩)
 generalize kr now (r.1.iq.toNat+1) r.1 r.2=q at e i p s g|-;unfold ug;split
 ·rename_i w;have B:=e.last;have x:q.1.base<=q.1.next:=by rw[e.base,<-a.base];exact g
  obtain⟨C,f2,f3,E⟩:=fH p (now:=now) (n:=0) (L9 _) O;refine⟨e.out p x now (L9 _) O (fun h=>by omega),⟨?_⟩⟩;have y:q.1.kn 0=q.1.next+1:=by unfold Cn.kn;rw[L7 ⟨w.1,O⟩];omega
  rcases s.f with h | ⟨m,h1,h2,t,u⟩ | h
  ·exact .inr (.inr ⟨O,by show(q.1.out now 0).next=_;omega⟩)
  ·exact .inr (.inl ⟨m,h1,h2,t,by show _<=(q.1.out now 0).next;omega⟩)
  omega
 exact⟨e,s⟩
theorem mV (c:Cn)(now:Int):(c.lp now).sc=c.sc/\(c.lp now).held=c.held/\(c.lp now).base=c.base/\(c.lp now).limit=c.limit/\(c.lp now).largest=c.largest/\(c.lp now).shut=c.shut/\(c.lp now).cf=c.cf/\(c.lp now).st=c.st/\(c.lp now).gi=c.gi:=by
 unfold Cn.lp;split
 ·exact⟨Z,Z,Z,Z,Z,Z,Z,Z,Z⟩
 split <;> exact⟨Z,Z,Z,Z,Z,Z,Z,Z,Z⟩
theorem oE {c:Cn}(ok:c.Ok)(so:F6 c){now:Int}(b:aI now):xa c (c.push now).1 (c.push now).2/\Gc c (c.push now).1:=by
 unfold Cn.push;split
 ·exact⟨.refl c,.of (.inl Z)⟩
 dsimp only
 have k:xa c (if ae c.st=true then c.o6 now else(c,[])).1 (if ae c.st=true then c.o6 now else(c,[])).2/\Gc c (if ae c.st=true then c.o6 now else(c,[])).1/\(if ae c.st=true then c.o6 now else(c,[])).1.Ok:=by
  split
  ·exact⟨(mU ok so b).1,(mU ok so b).2,ok.o6 b⟩
  exact⟨.refl c,.of (.inl Z),ok⟩
 generalize (if ae c.st=true then c.o6 now else(c,[]))=r at k|-;obtain⟨k,g,o⟩:=k;have i:=o.fM
 have a:∀(d:Cn) (m:List Sg),xa c d m->Gc c d->xa c (d.lp now) m/\Gc c (d.lp now):=fun d m h j=>by
  obtain⟨e,l,n,p,q,t,u,w,x⟩:=mV d now;refine⟨h.to _ (by rw[e]) (by rw[e]) l n p q t u w x,⟨?_⟩⟩;rw[show(d.lp now).next=d.next from by unfold Cn.next;rw[e]];exact j.f
 unfold Cn.qD;split
 ·refine a _ _ ?_ ⟨g.f⟩;have hs:=gu r.1 dH r.1.next;have hz:(r.1.qE dH r.1.next).s=[]:=hs.2.1;exact k.more (r.1.qG false) _ r.1.next hs.1 (by rw[<-k.fM];exact i.2.1) (by rw[hz,show mR (r.1.qE dH r.1.next)=0 from by unfold mR;rw[hs.2.2.1];rfl];show r.1.next+((0:Nat):Int)+0<=r.1.next;omega) (.inl Z) Z Z Z Z Z Z Z Z Z
 exact a _ _ k g
structure FN (c d:Cn):Prop where
 fx:Fx c d
 over:d.over=c.over
 ann:d.ann=c.ann
 pend:d.pend=c.pend
 pd:d.pd=c.pd
 room:d.room=c.room
theorem FN.refl (c:Cn):FN c c:=⟨.refl c,Z,Z,Z,Z,Z⟩
theorem FN.trans {c d e:Cn}(h:FN c d)(k:FN d e):FN c e:=⟨h.fx.trans k.fx,k.over.trans h.over,k.ann.trans h.ann,k.pend.trans h.pend,k.pd.trans h.pd,k.room.trans h.room⟩
structure GQ (c d:Cn)(ack win:Int):Prop where
 fM:d.fM=ack
 next:d.next=c.next
 last:d.last=c.last
 base:d.base<=max c.base ack
 lim:d.limit=max c.limit (ack+win)
 AC:d.largest=max c.largest win
 shut:d.shut=c.shut
 cf:d.cf=c.cf
 gi:d.gi=c.gi
 rv:FN c d
 tries:d.tries=0
 st:d.st=c.st\/((c.fM<=c.last/\c.last<ack)/\gb c.st 7=some d.st)
 dl:c.fM<ack->d.dl=eG
 dk:ack<=c.fM->d.dl=c.dl
 ub:min c.fM c.last<=c.base->min ack c.last<=d.base
theorem jk (c:Cn)(now e:Int):FN c (c.step now e):=by
 refine⟨cJ c now e,?_,?_,?_,?_,?_⟩ <;> (unfold Cn.step;split;rfl;split <;> rfl)
theorem uD (c:Cn)(now e:Int):(c.step now e).sc=c.sc/\(c.step now e).held=c.held/\(c.step now e).base=c.base/\(c.step now e).limit=c.limit/\(c.step now e).largest=c.largest/\(c.step now e).shut=c.shut/\(c.step now e).cf=c.cf/\(c.step now e).gi=c.gi/\(c.step now e).tries=c.tries/\(c.step now e).dl=c.dl:=by
 unfold Cn.step;split
 ·exact⟨Z,Z,Z,Z,Z,Z,Z,Z,Z,Z⟩
 split <;> exact⟨Z,Z,Z,Z,Z,Z,Z,Z,Z,Z⟩
theorem Ad (c:Cn)(now e:Int):(c.step now e).st=c.st\/gb c.st e=some (c.step now e).st:=by
 unfold Cn.step;split
 ·exact .inl Z
 rename_i n h;split
 ·exact .inr h
 exact .inr h
theorem yC (c:Cn)(a:Int):(c.drop a).last=c.last/\(c.drop a).base<=max c.base a/\min a c.last<=(c.drop a).base:=by
 have b:0<=dL c.held c.base a/\dL c.held c.base a<=c.held.length/\c.base+dL c.held c.base a<=max c.base a/\min a (c.base+c.held.length)<=c.base+dL c.held c.base a:=by unfold dL;omega
 refine⟨?_,b.2.2.1,b.2.2.2⟩;unfold Cn.drop Cn.last;dsimp only;rw[Lq];omega
theorem kt {c:Cn}(now:Int)(s:Sg){ack:Int}(hu:c.fM<=ack)(h0:0<=ack)(x:ack<=c.next):GQ c (c.go now s ack) ack s.win:=by
 obtain⟨y,z⟩:(c.sc.go ack (dV c.iu c.next c.cf.kc s.bl)).fM=max c.sc.fM ack/\(c.sc.go ack (dV c.iu c.next c.cf.kc s.bl)).next=c.sc.next:=mQ c.sc h0 x (xu c.sc c.iu c.cf.kc s.bl);have A:c.sc.fM=c.fM:=Z;unfold Cn.go;rw[L5 O];dsimp only
 -- behind the report
 have h1:∀a:Cn,a.sc=c.sc.go ack (dV c.iu c.next c.cf.kc s.bl)->a.fM=ack/\a.next=c.next:=fun a e=>by
  refine⟨?_,?_⟩
  ·show a.sc.fM=ack;rw[e,y];omega
  show a.sc.next=c.sc.next;rw[e,z]
 have h2:∀a:Cn,a.sc=c.sc.go ack (dV c.iu c.next c.cf.kc s.bl)->a.last=c.last->a.base<=max c.base ack->a.limit=c.limit->a.largest=c.largest->a.shut=c.shut->a.cf=c.cf->a.gi=c.gi->FN c a->a.tries=0->a.st=c.st->(c.fM<ack->a.dl=eG)->(ack<=c.fM->a.dl=c.dl)->(min c.fM c.last<=c.base->min ack c.last<=a.base) ->
   GQ c (if c.fM<=c.last/\c.last<ack then(if 0<c.Ct ack s.bl/\(a.announce ack s.win).mark<=ack/\(a.announce ack s.win).sc.lost (a.announce ack s.win).gi≠[]then { a.announce ack s.win with cg:=(a.announce ack s.win).cg.lost c.flight (a.announce ack s.win).next }else a.announce ack s.win).step now 7 else(if 0<c.Ct ack s.bl/\(a.announce ack s.win).mark<=ack/\(a.announce ack s.win).sc.lost (a.announce ack s.win).gi≠[]then { a.announce ack s.win with cg:=(a.announce ack s.win).cg.lost c.flight (a.announce ack s.win).next }else a.announce ack s.win)) ack s.win:=by
  intro a B C E F G I J K L m f n o p
  have M:∀b:Cn,b.sc=a.sc->b.held=a.held->b.base=a.base->b.limit=max a.limit (ack+s.win)->b.largest=max a.largest s.win->b.shut=a.shut->b.cf=a.cf->b.gi=a.gi->FN a b->b.tries=a.tries->b.st=a.st->b.dl=a.dl->GQ c (if c.fM<=c.last/\c.last<ack then b.step now 7 else b) ack s.win:=by
   intro b N f2 f3 P T f6 U V W q g j;obtain⟨u,w⟩:=h1 b (N.trans B);have r:b.last=c.last:=by rw[<-C];unfold Cn.last;rw[f2,f3]
   have base:GQ c b ack s.win:=⟨u,w,r,by rw[f3];exact E,by rw[P,F],by rw[T,G],f6.trans I,U.trans J,V.trans K,L.trans W,q.trans m,.inl (g.trans f),fun h=>j.trans (n h),fun h=>j.trans (o h),fun h=>by rw[f3];exact p h⟩;split
   ·rename_i X;obtain⟨g1,g2,t,g4,g5,g6,g7,g8,g9,l⟩:=uD b now 7;refine⟨by show(b.step now 7).sc.fM=_;rw[g1];exact u,by show(b.step now 7).sc.next=_;rw[g1];exact w,by unfold Cn.last at r|-;rw[g2,t];exact r,by rw[t];exact base.base,g4.trans base.lim,g5.trans base.AC,g6.trans base.shut,g7.trans base.cf,g8.trans base.gi,base.rv.trans (jk b now 7),g9.trans base.tries,?_,fun h=>l.trans (base.dl h),fun h=>l.trans (base.dk h),fun h=>by rw[t];exact base.ub h⟩
    rcases Ad b now 7 with h | h
    ·exact .inl (h.trans (g.trans f))
    ·exact .inr ⟨X,by rw[<-f,<-g];exact h⟩
   ·exact base
  exact M _ IV IV IV IV IV IV IV IV (by split <;> exact⟨⟨Z,Z,Z,Z⟩,Z,Z,Z,Z,Z⟩) IV IV IV
 by_cases i:c.fM<ack
 ·rw[L7 i];by_cases hz:0<ack-max c.fM 1
  ·rw[L7 hz];obtain⟨d1,d2,d3⟩:=yC { ({ c with tries:=0 }:Cn).report ack s.bl with dl:=eG,tm:=(({ c with tries:=0 }:Cn).report ack s.bl).tm.go now ack,cg:=(({ c with tries:=0 }:Cn).report ack s.bl).cg.go (ack-max c.fM 1) ack } ack;exact h2 (Cn.drop { ({ c with tries:=0 }:Cn).report ack s.bl with dl:=eG,tm:=(({ c with tries:=0 }:Cn).report ack s.bl).tm.go now ack,cg:=(({ c with tries:=0 }:Cn).report ack s.bl).cg.go (ack-max c.fM 1) ack } ack) Z d1 d2 Z Z Z Z Z ⟨⟨Z,Z,Z,Z⟩,Z,Z,Z,Z,Z⟩ Z Z (fun _=>rfl) (fun h=>by omega) (fun _=>d3)
  rw[L5 hz];obtain⟨d1,d2,d3⟩:=yC { ({ c with tries:=0 }:Cn).report ack s.bl with dl:=eG,tm:=(({ c with tries:=0 }:Cn).report ack s.bl).tm.go now ack } ack;exact h2 (Cn.drop { ({ c with tries:=0 }:Cn).report ack s.bl with dl:=eG,tm:=(({ c with tries:=0 }:Cn).report ack s.bl).tm.go now ack } ack) Z d1 d2 Z Z Z Z Z ⟨⟨Z,Z,Z,Z⟩,Z,Z,Z,Z,Z⟩ Z Z (fun _=>rfl) (fun h=>by omega) (fun _=>d3)
 rw[L5 i];exact h2 (({ c with tries:=0 }:Cn).report ack s.bl) Z Z (by show c.base<=_;omega) Z Z Z Z Z ⟨⟨Z,Z,Z,Z⟩,Z,Z,Z,Z,Z⟩ Z Z (fun h=>absurd h i) (fun _=>rfl) (fun h=>by show min ack c.last<=c.base;omega)
structure ES (c d:Cn):Prop where
 sc:d.sc=c.sc
 held:d.held=c.held
 base:d.base=c.base
 lim:d.limit=c.limit
 AC:d.largest=c.largest
 shut:d.shut=c.shut
 cf:d.cf=c.cf
 gi:d.gi=c.gi
 tries:d.tries=c.tries
 dl:d.dl=c.dl
 room:d.room=c.room
 tm:d.tm=c.tm
theorem ES.refl (c:Cn):ES c c:=⟨Z,Z,Z,Z,Z,Z,Z,Z,Z,Z,Z,Z⟩
theorem ES.trans {c d e:Cn}(h:ES c d)(k:ES d e):ES c e:=⟨k.sc.trans h.sc,k.held.trans h.held,k.base.trans h.base,k.lim.trans h.lim,k.AC.trans h.AC,k.shut.trans h.shut,k.cf.trans h.cf,k.gi.trans h.gi,k.tries.trans h.tries,k.dl.trans h.dl,k.room.trans h.room,k.tm.trans h.tm⟩
theorem jl (c:Cn)(now e:Int):ES c (c.step now e):=by
 obtain⟨g1,b,f,g,h,i,j,l,m,a⟩:=uD c now e;exact⟨g1,b,f,g,h,i,j,l,m,a,(jk c now e).room,by unfold Cn.step;split;rfl;split <;> rfl⟩
def Pn (c d:Cn)(now:Int):Prop:=d.pend=2\/(d.pend=1/\c.pend=0/\d.pd= .wA now 2)
structure Is (c d:Cn)(now off:Int)(s:Sg):Prop where
 has:∀i,d.bx.has i↔c.bx.has i\/(off<=i/\i<off+s.s.length/\i<c.most)
 rd:d.bx.rd=c.bx.rd
 ring:d.bx.ring.length=c.bx.ring.length
 nx:c.bx.nx<=d.bx.nx
 ok:d.bx.Ok
 sd:ES c d
 tq:d.tq=c.tq
 ended:d.ended=c.ended
 ox:d.ox=c.ox
 over:d.over=c.over
 ann:d.ann=c.ann
 st:d.st=c.st
 pn:s.s=[]/\d.pend=c.pend/\d.pd=c.pd\/Pn c d now
theorem vI {c:Cn}(ok:c.Ok)(hr:aV c.st=true){now off:Int}{s:Sg}(h0:0<=off)(h1:off<=1099511627776)(he:c.ended=true->off+s.s.length<=c.ox):Is c (c.store now s off) now off s:=by
 have hs:n8 c.ended c.ox off s.s=s.s:=by
  unfold n8
  have e:(if c.ended=true then s.s.take (min (max (c.ox-off) 0) s.s.length).toNat else s.s)=s.s:=by
   split
   ·rename_i m;have:=he m;exact Mc O
   rfl
  rw[e,L5 O];rfl
 unfold Cn.store;split
 ·rename_i hz;refine⟨fun i=>⟨.inl,?_⟩,Z,Z,L9 _,ok.bx,.refl c,Z,Z,Z,Z,Z,Z,.inl ⟨hz,Z,Z⟩⟩;rintro (h | h)
  ·exact h
  rw[hz]at h;simp at h;omega
 rename_i hz
 have n:c.uf off s.s=c.bx.put off s.s:=by
  unfold Cn.uf;rw[hs,L5 hz,show max off 0=off by omega]
 obtain⟨p1,b,f,g,j⟩:=Bx.Dd ok.bx s.s h0 h1;have a:c.insert off s.s={ c with bx:=c.bx.put off s.s }:=by unfold Cn.insert;rw[n]
 split
 ·rw[a];unfold Cn.rl;split
  ·exact⟨fun i=>j i,b,f,g,p1,⟨Z,Z,Z,Z,Z,Z,Z,Z,Z,Z,Z,Z⟩,Z,Z,Z,Z,Z,Z,.inr (.inl Z)⟩
  rename_i l;have l:c.pend=0:=by have h:¬c.pend≠0:=l;omega
  exact⟨fun i=>j i,b,f,g,p1,⟨Z,Z,Z,Z,Z,Z,Z,Z,Z,Z,Z,Z⟩,Z,Z,Z,Z,Z,Z,.inr (.inr ⟨Z,l,Z⟩)⟩
 rw[a];exact⟨fun i=>j i,b,f,g,p1,⟨Z,Z,Z,Z,Z,Z,Z,Z,Z,Z,Z,Z⟩,Z,Z,Z,Z,Z,Z,.inr (.inl Z)⟩
structure I5 (c d:Cn)(e:Int)(s:Sg):Prop where
 bx:d.bx=c.bx
 sd:ES c d
 tq:d.tq=c.tq
 ann:d.ann=c.ann
 ended:(d.ended=c.ended/\d.ox=c.ox/\(s.fin=true->c.ended=true\/e<c.bx.nx\/aV c.st=false))\/(s.fin=true/\c.ended=false/\d.ended=true/\d.ox=e)
 pn:(d.pend=c.pend/\d.pd=c.pd/\d.over=c.over/\d.st=c.st/\(d.reached=true->c.over=true))\/(d.pend=2/\d.reached=true/\c.over=false/\d.over=true/\(d.st=c.st\/gb c.st 6=some d.st)/\(∀n,gb c.st 6=some n->d.st=n))
theorem yD (c:Cn)(now:Int)(s:Sg)(off:Int):I5 c (c.qb now s off) (off+s.s.length) s:=by
 unfold Cn.qb;dsimp only
 have f:∀d:Cn,d.bx=c.bx->ES c d->d.tq=c.tq->d.ann=c.ann->((d.ended=c.ended/\d.ox=c.ox/\(s.fin=true->c.ended=true\/off+s.s.length<c.bx.nx\/aV c.st=false))\/(s.fin=true/\c.ended=false/\d.ended=true/\d.ox=off+s.s.length))->d.pend=c.pend->d.pd=c.pd->d.over=c.over->d.st=c.st ->
   I5 c (if d.reached=true/\d.over=false then({ d with over:=true }.step now 6).gB else d) (off+s.s.length) s:=by
  intro d j m o p q u w g i;split
  ·rename_i e;have r:=jk { d with over:=true } now 6;have sd:=jl { d with over:=true } now 6;refine⟨r.fx.bx.trans j,?_,r.fx.tq.trans o,r.ann.trans p,?_,.inr ⟨Z,?_,by rw[<-g];exact e.2,r.over,?_,?_⟩⟩
   ·exact m.trans ⟨sd.sc,sd.held,sd.base,sd.lim,sd.AC,sd.shut,sd.cf,sd.gi,sd.tries,sd.dl,sd.room,sd.tm⟩
   ·rcases q with⟨a,b,k⟩ | ⟨a,b,k,l⟩
    ·exact .inl ⟨r.fx.ended.trans a,r.fx.ox.trans b,k⟩
    ·exact .inr ⟨a,b,r.fx.ended.trans k,r.fx.ox.trans l⟩
   ·have h1:=e.1;unfold Cn.reached at h1|-;have x:(({ d with over:=true }:Cn).step now 6).gB.bx=d.bx:=r.fx.bx;have y:(({ d with over:=true }:Cn).step now 6).gB.ended=d.ended:=r.fx.ended;have z:(({ d with over:=true }:Cn).step now 6).gB.ox=d.ox:=r.fx.ox;rw[x,y,z];exact h1
   ·have h2:=Ad { d with over:=true } now 6;rw[<-i];exact h2
   ·intro n t;rw[<-i]at t
    have A:(({ d with over:=true }:Cn).step now 6).st=n:=by
     rw[Cn.Ad];show(match gb d.st 6 with | none=>d.st | some n=>n)=n;rw[t]
    exact A
  ·rename_i e;refine⟨j,m,o,p,q,.inl ⟨u,w,g,i,fun h=> ?_⟩⟩;rw[<-g]
   cases ho:d.over with
   | true=>rfl
   | false=>exact absurd ⟨h,ho⟩ e
 split
 ·rename_i e;exact f _ Z ⟨Z,Z,Z,Z,Z,Z,Z,Z,Z,Z,Z,Z⟩ Z Z (.inr ⟨e.1,e.2.2.1,Z,Z⟩) Z Z Z Z
 rename_i e;refine f c Z (.refl c) Z Z (.inl ⟨Z,Z,fun B=> ?_⟩) Z Z Z Z
 cases he:c.ended with
 | true=>exact .inl Z
 | false =>
  cases hc:aV c.st with
  | false=>exact .inr (.inr Z)
  | true =>
   refine .inr (.inl ?_)
   rcases Mx (off+s.s.length) c.bx.nx with h | h
   ·exact h
   exact absurd ⟨B,hc,he,h⟩ e
end Go.Proofs.YtcmncipikdpnbaaGreatDoor
