import Derived.Test.YtcmncipikdpnbaaGreatDoorUb24
namespace Go.Proofs.YtcmncipikdpnbaaGreatDoor
section
def Sc.free (s:Sc):Int:=s.next-s.gi-aD s.sk-aD s.ag
theorem Sc.Ok.free_eq {s:Sc}(h:s.Ok):s.free=fK (fun i=>((s.gi<=i/\i<s.next)/\¬ap i s.sk)/\¬ap i s.ag) s.next.toNat:=by
 have o:=h.nat;have m:=h.u0;have l:=h.un;have t:=mB (a:=s.gi) (b:=s.next) m l s.next.toNat;have u:=dN h.Eg (n:=s.next.toNat) (fun i hi=>by have:=h.Gg i hi;omega);have w:=dN h.FJ (n:=s.next.toNat) (fun i hi=>by have:=h.mag i hi;omega)
 have x:fK (fun i=>s.gi<=i/\i<s.next) s.next.toNat=fK (fun i=>ap i s.sk) s.next.toNat+fK (fun i=>(s.gi<=i/\i<s.next)/\¬ap i s.sk) s.next.toNat:=gY (fun i=>by
  constructor
  ·intro k;by_cases g:ap i s.sk
   ·exact .inl g
   exact .inr ⟨k,g⟩
  rintro (k | k)
  ·exact h.Gg i k
  exact k.1) (fun i a b=>b.2 a)
 have y:fK (fun i=>(s.gi<=i/\i<s.next)/\¬ap i s.sk) s.next.toNat=fK (fun i=>ap i s.ag) s.next.toNat+fK (fun i=>((s.gi<=i/\i<s.next)/\¬ap i s.sk)/\¬ap i s.ag) s.next.toNat:=gY (fun i=>by
  constructor
  ·intro k;by_cases g:ap i s.ag
   ·exact .inl g
   exact .inr ⟨k,g⟩
  rintro (k | k)
  ·have:=h.mag i k;exact⟨⟨this.1,this.2.1⟩,this.2.2⟩
  exact k.1) (fun i a b=>b.2 a)
 unfold Sc.free;omega
theorem Sc.Ok.Fz {s:Sc}(h:s.Ok):0<=s.free:=by rw[h.free_eq];exact jG _ _
theorem Sc.Ok.F8 {s:Sc}(h:s.Ok)(gi:Int)(l:List Sp):(s.i1 gi l).free<=s.free/\(s.i1 gi l).next=s.next:=by
 unfold Sc.i1;split
 ·rename_i b;have o:=(h.El b).2;have t:=(h.Ff b).2;have u:=h.v7 b;refine⟨?_,Z⟩;rw[u.free_eq,h.free_eq];refine wu fun i hi=> ?_;obtain⟨⟨⟨h1,h2⟩,g⟩,n⟩:=hi;have a:max s.gi gi<=i:=h1;rw[t]at n;refine⟨⟨⟨O,h2⟩,fun m=>g ((o i).2 ⟨a,.inl m⟩)⟩,fun m=>n ⟨⟨a,m⟩,g⟩⟩
 exact⟨Lb _,Z⟩
theorem Sc.FL {s:Sc}{t:Int}(h1:s.next<=t)(h2:t<=1099511627776):(s.sent t).free=s.free+(t-s.next)/\(s.sent t).next=t:=by
 have e:s.sent t={ s with next:=t }:=by
  unfold Sc.sent Sc.Do;rw[L9 (Le ⟨h1,h2⟩)]
 rw[e];unfold Sc.free;exact⟨IN,Z⟩
theorem Sc.EY (s:Sc):s.timeout.free=s.next-s.gi:=by
 unfold Sc.timeout Sc.free
 simp[aD]
theorem yE {c:Cn}(ok:c.Ok){x:Sp}{t:List Sp}(g:c.sc.lost c.go=x::t):(c.sc.ret (aK c.go x)).free+1<=c.sc.free/\(c.sc.ret (aK c.go x)).next=c.sc.next/\c.sc.Eh (aK c.go x)=0:=by
 have y:=ok.go;have a:x∈c.sc.lost c.go:=by rw[g];simp
 obtain⟨h,-,-,-⟩:=du ok.sc (m:=c.go) O a;unfold i7 at h;have i:(aK c.go x).2=min x.2 (x.1+c.go):=Z;have l:(aK c.go x).1=x.1:=Z;obtain⟨b,-,n⟩:=mE ok.sc (m:=c.go) O a (x:=aK c.go x) Z O O;rw[gZ _ O,gZ _ O,nY (s:=c.sc) (t:=c.sc.Di (aK c.go x)) Z Z Z Z c.go,show(c.sc.Di (aK c.go x)).gaps=c.sc.gaps from Z]at n;have e:c.sc.ret (aK c.go x)=c.sc.Di (aK c.go x):=by unfold Sc.ret;rw[L9 b]
 rw[e];refine⟨?_,Z,by unfold Sc.Eh;rw[L9 b]⟩;have o:(c.sc.Di (aK c.go x)).next=c.sc.next:=Z;have u:(c.sc.Di (aK c.go x)).gi=c.sc.gi:=Z;have w:(c.sc.Di (aK c.go x)).sk=c.sc.sk:=Z;unfold Sc.free;rw[o,u,w];omega
def Cn.Cu (c:Cn):Int:=2*(c.last+1-c.next)+c.sc.free
structure Em (c d:Cn)(k j:Int):Prop where
 last:d.last=c.last
 nl:c.next<=c.last+1->d.next<=d.last+1
 Cu:k+d.Cu<=c.Cu+j
namespace Em
variable {c d e : Cn} {k j k' j' : Int}
theorem refl (c:Cn):Em c c 0 0:=⟨Z,id,O⟩
theorem trans (h:Em c d k j)(g:Em d e k' j'):Em c e (k+k') (j+j'):=⟨g.last.trans h.last,fun x=>g.nl (h.nl x),by have:=h.Cu;have:=g.Cu;omega⟩
theorem DB (h:Em c d 0 0)(g:Em d e 0 0):Em c e 0 0:=⟨g.last.trans h.last,fun x=>g.nl (h.nl x),by have:=h.Cu;have:=g.Cu;omega⟩
theorem mono (h:Em c d k j)(a:k'<=k)(b:j<=j'):Em c d k' j':=⟨h.last,h.nl,by have:=h.Cu;omega⟩
theorem same (c d:Cn)(h1:d.sc=c.sc)(h2:d.held=c.held)(g:d.base=c.base):Em c d 0 0:=by
 have a:d.last=c.last:=by unfold Cn.last;rw[h2,g]
 have b:d.next=c.next:=by unfold Cn.next;rw[h1]
 exact⟨a,fun h=>by rw[a,b];exact h,by unfold Cn.Cu;rw[a,b,h1];omega⟩
end Em
theorem Cn.DA (c:Cn)(now e:Int):Em c (c.step now e) 0 0:=by
 unfold Cn.step;split
 ·exact .refl c
 split <;> exact .same _ _ Z Z Z
theorem Cn.Gy (c:Cn)(b:Bool):Em c (c.wk b) 0 0:=by unfold Cn.wk;split <;> exact .same _ _ Z Z Z
theorem Cn.FA (c:Cn):Em c c.Cc 0 0:=by unfold Cn.Cc;split <;> exact .same _ _ Z Z Z
theorem oC {c:Cn}(ok:c.Ok){n:Int}(h0:0<=n)(m:n<=c.last-c.next)(h1:1<=n\/(c.shut=true/\c.next=c.last)):Em c (c.qa n) 1 0:=by
 have o:=ok.b1
 have h:c.next+1<=c.ms n/\c.ms n<=c.last+1:=by
  unfold Cn.ms;split
  ·omega
  rename_i a
  rcases h1 with h1 | ⟨h1,h2⟩
  ·omega
  exact absurd ⟨h1,O⟩ a
 obtain⟨i,f2⟩:=Sc.FL (s:=c.sc) (t:=c.ms n) (show c.next<=_ by omega) O;have b:(c.qa n).last=c.last:=by unfold Cn.qa Cn.tq Cn.wk;rfl
 have g:(c.qa n).next=c.ms n:=f2;have hs:(c.qa n).sc=c.sc.sent (c.ms n):=Z;have l:c.sc.next=c.next:=Z;exact⟨b,fun _=>by rw[b,g];exact h.2,by unfold Cn.Cu;rw[b,g,hs,i,l];omega⟩
theorem yF {c:Cn}(ok:c.Ok)(now:Int){n:Int}(h0:0<=n)(a:n<=c.last-c.next)(h1:1<=n\/(c.shut=true/\c.next=c.last)):Em c (c.out now n) 1 0:=by
 have:=(oC ok h0 a h1).trans (.same (c.qa n) (c.out now n) Z Z Z);exact this.mono O O
theorem yG (n:Nat):∀{c:Cn} (_:c.Ok) (l:List Sg),Em c (oi n c l).1 (((oi n c l).2.length:Int)-l.length) 0:=by
 induction n with
 | zero=>intro c _ l;exact(Em.refl c).mono (by simp[oi]) O
 | succ n m =>
  intro c ok l;by_cases b:c.sc.pipe c.go<c.cg.win
  ·cases hl:c.sc.lost c.go with
   | nil =>
    rw[oi,L9 b,hl];exact(Em.refl c).mono IK O
   | cons x t =>
    obtain⟨o,f2,f3⟩:=yE ok hl;rw[oi,L9 b,hl];dsimp only;rw[L9 f3];have g:Cn.Ok { c.tq with sc:=c.sc.ret (aK c.go x),tm:=c.tm.rl }:=(ok.tq.DH (ok.sc.ret _)).DY (Tm.A3 ok.tm);have h1:=m g (l++[c.nB x.1 (aK c.go x).2])
    have h0:Em c { c.tq with sc:=c.sc.ret (aK c.go x),tm:=c.tm.rl } 1 0:=by
     have i:Cn.last { c.tq with sc:=c.sc.ret (aK c.go x),tm:=c.tm.rl }=c.last:=Z;have a:Cn.next { c.tq with sc:=c.sc.ret (aK c.go x),tm:=c.tm.rl }=c.next:=f2;exact⟨i,fun h=>by rw[i,a];exact h,by unfold Cn.Cu;rw[i,a];show _+(_+(c.sc.ret (aK c.go x)).free)<=_;omega⟩
    exact(h0.trans h1).mono Jg O
  rw[oi,L7 b];exact(Em.refl c).mono IK O
theorem sG {c:Cn}(_ok:c.Ok)(h:0<c.allowed):c.allowed<=c.last-c.next:=by
 have a:c.allowed<=c.kc\/c.allowed<=0:=by
  unfold Cn.allowed;split
  ·omega
  split
  ·omega
  split <;> omega
 have b:c.kc=max 0 (c.last-c.next):=Z;omega
theorem yH {now:Int}(a:aI now)(n:Nat):∀{c:Cn} (_:c.Ok) (l:List Sg),Em c (nA now n c l).1 (((nA now n c l).2.length:Int)-l.length) 0:=by
 induction n with
 | zero=>intro c _ l;exact(Em.refl c).mono (by simp[nA]) O
 | succ n b =>
  intro c ok l;rw[nA];split
  ·rename_i h;have h1:=b (ok.out a c.allowed) (l++[c.kr c.allowed]);have h0:=yF ok now (n:=c.allowed) O (sG ok h) (.inl O);exact(h0.trans h1).mono Jg O
  exact(Em.refl c).mono IK O
theorem AF {now:Int}{c:Cn}(ok:c.Ok)(l:List Sg):Em c (Cb now c l).1 (((Cb now c l).2.length:Int)-l.length) 0:=by
 unfold Cb;split
 ·rename_i h;exact(yF ok now (n:=0) O O (.inr h)).mono Jg O
 exact(Em.refl c).mono IK O
theorem yI {c:Cn}(ok:c.Ok){now:Int}(h:aI now):Em c (c.qb now).1 (c.qb now).2.length 0:=by
 unfold Cn.qb;dsimp only;have h1:=yG (c.flight.toNat+1) ok [];have g:=Cn.Ok.oi (c.flight.toNat+1) ok [];generalize oi (c.flight.toNat+1) c []=a at h1 g|-;have h2:=yH h (a.1.kc.toNat+1) g a.2;have i:=Cn.Ok.nA h (a.1.kc.toNat+1) g a.2;generalize nA now (a.1.kc.toNat+1) a.1 a.2=b at h2 i|-;have l:=AF (now:=now) i b.2;exact((h1.trans h2).trans l).mono (by rw[M4];omega) O
theorem yJ (c:Cn)(l:List Sg):Em c (c.tt l).1 (((c.tt l).2.length:Int)-l.length) (if c.pend=2 then 1 else 0):=by
 unfold Cn.tt;by_cases h:c.pend=2
 ·rw[L9 h,L9 h];have h:=c.Gy false;exact⟨h.last,h.nl,by have:=h.Cu;dsimp only;rw[Lc,Mr];omega⟩
 rw[L7 h,L7 h];exact(Em.refl c).mono IK O
theorem yK (c:Cn)(now:Int):Em c (c.o6 now) 0 0:=by
 unfold Cn.o6;split
 ·exact .same _ _ Z Z Z
 split
 ·exact .refl c
 exact .same _ _ Z Z Z
theorem dB {c:Cn}(ok:c.Ok){now:Int}(g:aI now):Em c (c.push now).1 (c.push now).2.length 1:=by
 unfold Cn.push;split
 ·exact(Em.refl c).mono IK O
 dsimp only
 have b:∀a:Cn×List Sg,Em c a.1 a.2.length 0->Em c ((a.1.tt a.2).1.o6 now) (a.1.tt a.2).2.length 1:=by
  intro a h;have h2:=yJ a.1 a.2;exact((h.trans h2).trans (yK _ now)).mono O JC
 split
 ·exact b _ (yI ok g)
 exact b (c,[]) ((Em.refl c).mono IK O)
theorem vN (c:Cn)(u:Int):(c.drop u).last=c.last:=by
 have:0<=dI c.held c.base u/\dI c.held c.base u<=c.held.length:=by unfold dI;omega
 unfold Cn.drop Cn.last;dsimp only;rw[Lt];omega
theorem tZ (c:Cn)(u:Int):Em c (c.drop u) 0 0:=by
 have a:=vN c u;have b:(c.drop u).next=c.next:=Z;have hs:(c.drop u).sc=c.sc:=Z;exact⟨a,fun h=>by rw[a,b];exact h,by unfold Cn.Cu;rw[a,b,hs];omega⟩
theorem vO {c:Cn}(ok:c.Ok)(a:Int)(bl:List Sp):Em c (c.report a bl) 0 0:=by
 obtain⟨h1,h2⟩:=ok.sc.F8 a (dU c.ke c.next c.cf.ki bl);have b:(c.report a bl).last=c.last:=Z;have g:(c.report a bl).next=c.next:=h2;exact⟨b,fun h=>by rw[b,g];exact h,by unfold Cn.Cu;rw[b,g];show _+(_+(c.sc.i1 a _).free)<=_;omega⟩
theorem qo {c:Cn}(ok:c.Ok)(now:Int)(s:Sg)(ack:Int):Em c (c.i1 now s ack) 0 0:=by
 unfold Cn.i1;split
 ·exact .same _ _ Z Z Z
 dsimp only;have h0:Em c (({ c with tries:=0 }:Cn).report ack s.bl) 0 0:=((Em.same c ({ c with tries:=0 }:Cn) Z Z Z).DB (vO ok.DM ack s.bl));generalize ({ c with tries:=0 }:Cn).report ack s.bl=r at h0
 have h1:Em c (if c.gi<ack then(if 0<ack-max c.gi 1 then({ r with dl:=eE,tm:=r.tm.i1 now ack,cg:=r.cg.i1 (ack-max c.gi 1) ack }:Cn)else { r with dl:=eE,tm:=r.tm.i1 now ack }).drop ack else r) 0 0:=by
  split
  ·split
   ·exact((h0.DB (.same r ({ r with dl:=eE,tm:=r.tm.i1 now ack,cg:=r.cg.i1 (ack-max c.gi 1) ack }:Cn) Z Z Z)).DB (tZ _ _))
   exact((h0.DB (.same r ({ r with dl:=eE,tm:=r.tm.i1 now ack }:Cn) Z Z Z)).DB (tZ _ _))
  exact h0
 generalize (if c.gi<ack then(if 0<ack-max c.gi 1 then({ r with dl:=eE,tm:=r.tm.i1 now ack,cg:=r.cg.i1 (ack-max c.gi 1) ack }:Cn)else { r with dl:=eE,tm:=r.tm.i1 now ack }).drop ack else r)=a at h1
 have h2:Em c (if 0<c.Dx ack s.bl/\(a.announce ack s.win).mark<=ack/\(a.announce ack s.win).sc.lost (a.announce ack s.win).go≠[]then { a.announce ack s.win with cg:=(a.announce ack s.win).cg.lost c.flight (a.announce ack s.win).next }else a.announce ack s.win) 0 0:=by
  split <;> exact(h1.DB (.same _ _ Z Z Z))
 generalize (if 0<c.Dx ack s.bl/\(a.announce ack s.win).mark<=ack/\(a.announce ack s.win).sc.lost (a.announce ack s.win).go≠[]then { a.announce ack s.win with cg:=(a.announce ack s.win).cg.lost c.flight (a.announce ack s.win).next }else a.announce ack s.win)=d at h2;split
 ·exact(h2.DB (d.DA now 7))
 exact h2
theorem yL (c:Cn)(now:Int)(s:Sg)(off:Int):Em c (c.store now s off) 0 0:=by
 unfold Cn.store;split
 ·exact .refl c
 split
 ·split
  ·unfold Cn.xa;split <;> exact .same _ _ Z Z Z
  exact .same _ _ Z Z Z
 exact .same _ _ Z Z Z
theorem AG (c:Cn)(now:Int)(s:Sg)(off:Int):Em c (c.tl now s off) 0 0:=by
 unfold Cn.tl;dsimp only;have h1:Em c (if s.fin=true/\aV c.st=true/\c.ended=false/\c.bx.nx<=off+s.s.length then { c with ended:=true,sw:=off+s.s.length }else c) 0 0:=by split <;> exact .same _ _ Z Z Z
 generalize (if s.fin=true/\aV c.st=true/\c.ended=false/\c.bx.nx<=off+s.s.length then { c with ended:=true,sw:=off+s.s.length }else c)=d at h1;split
 ·have h2:Em d ({ d with over:=true }:Cn) 0 0:=.same _ _ Z Z Z;exact(((h1.trans h2).DB (Cn.DA { d with over:=true } now 6)).DB (.same _ _ Z Z Z))
 exact h1
end
theorem Em.one (c:Cn):Em c c 1 1:=⟨Z,id,O⟩
theorem gI (c:Cn)(now e a:Int):Em c (c.finish now e a) 0 0:=(Cn.DA c now e).DB (.same _ _ Z Z Z)
theorem ek (c:Cn):Em c c.i2 0 0:=.same _ _ Z Z Z
theorem pP {c:Cn}(ok:c.Ok)(now:Int)(s:Sg)(off ack:Int):Em c (((c.i1 now s ack).store now s off).tl now s off) 0 0 :=
 (((qo ok now s ack).trans (yL _ now s off)).trans (AG _ now s off)).mono O O
theorem sH {c:Cn}(ok:c.Ok){now:Int}(a:aI now){s:Sg}(hs:s.Ok){off:Int}(b: -2147483648<=off/\off<=2147483647):Em c (c.process now s off).1 (c.process now s off).2.length 1:=by
 have g:=bP s.ak c.cf.ki;unfold Cn.process;dsimp only;split
 ·rename_i h2;have i:=ok.tr2 O;split
  ·exact Em.one c
  have h:=ok.step a i 4;have l:=Cn.DA c now 4;split
  ·have m:=h.step a (by rw[Cn.Dc];exact i) 5;exact(((l.trans (Cn.DA _ now 5)).trans (pP m now s off _)).trans (dB (m.tail a hs b g.2) a)).mono O O
  exact((l.trans (pP h now s off _)).trans (dB (h.tail a hs b g.2) a)).mono O O
 split
 ·exact((ek c).trans (dB ok.i2 a)).mono O O
 exact((pP ok now s off _).trans (dB (ok.tail a hs b g.2) a)).mono O O
theorem yM {c:Cn}(ok:c.Ok){now:Int}(g:aI now){s:Sg}(hs:s.Ok):Em c (c.stray now s).1 (c.stray now s).2.length 1:=by
 have l:=bP s.ak c.cf.ki;unfold Cn.stray;dsimp only
 have h1:Cn.Ok (if bf c.st=true/\s.has=true/\s.syn=false/\c.gi<=aE s.ak c.cf.ki/\aE s.ak c.cf.ki<=c.next then c.i1 now s (aE s.ak c.cf.ki)else c):=by
  split
  ·exact(ok.i1 g hs O).1
  exact ok
 have h:Em c (if bf c.st=true/\s.has=true/\s.syn=false/\c.gi<=aE s.ak c.cf.ki/\aE s.ak c.cf.ki<=c.next then c.i1 now s (aE s.ak c.cf.ki)else c) 0 0:=by
  split
  ·exact qo ok now s _
  exact .refl c
 generalize (if bf c.st=true/\s.has=true/\s.syn=false/\c.gi<=aE s.ak c.cf.ki/\aE s.ak c.cf.ki<=c.next then c.i1 now s (aE s.ak c.cf.ki)else c)=a at h1 h|-
 have h2:Cn.Ok (if a.st=9/\s.fin=true then { a with per:=.Ck now 60 }else a):=by
  split
  ·exact { h1 with per:=Al.Cz g D D }
  exact h1
 have i:Em a (if a.st=9/\s.fin=true then { a with per:=.Ck now 60 }else a) 0 0:=by
  split
  ·exact .same _ _ Z Z Z
  exact .refl a
 generalize (if a.st=9/\s.fin=true then { a with per:=.Ck now 60 }else a)=b at h2 i|-;split
 ·exact(((h.trans i).trans (ek b)).trans (dB h2.i2 g)).mono O O
 exact((h.trans i).trans (dB h2 g)).mono O O
theorem yN {c:Cn}(ok:c.Ok){now:Int}(i:aI now){s:Sg}(hs:s.Ok):Em c (c.Ct now s).1 (c.Ct now s).2.length 1:=by
 unfold Cn.Ct;split
 ·split
  ·exact(Em.refl c).mono IK O
  exact Em.one c
 split
 ·exact(gI c now 8 184).mono IK O
 split
 ·exact(Em.refl c).mono IK O
 rename_i hy;have hy:s.syn=true:=Jt
 have a:=(ok.meet hs hy).DM;have b:Em c ({ c.meet s with tries:=0 }:Cn) 0 0:=.same _ _ Z Z Z;have l:({ c.meet s with tries:=0 }:Cn).tries<=12:=J4
 generalize ({ c.meet s with tries:=0 }:Cn)=d at a b l;dsimp only;split
 ·have h:=((b.trans (Cn.DA d now 2)).trans (Cn.FA _));exact⟨h.last,h.nl,by have:=h.Cu;simp;omega⟩
 have m:Cn.Ok { d with sc:=d.sc.i1 1 [],tm:=d.tm.i1 now 1 }:=(a.DH (a.sc.i1 1 [])).DY (Tm.Ce a.tm now 1)
 have n:Em d { d with sc:=d.sc.i1 1 [],tm:=d.tm.i1 now 1 } 0 0:=by
  obtain⟨h1,h2⟩:=a.sc.F8 1 [];have g:Cn.last { d with sc:=d.sc.i1 1 [],tm:=d.tm.i1 now 1 }=d.last:=Z;have o:Cn.next { d with sc:=d.sc.i1 1 [],tm:=d.tm.i1 now 1 }=d.next:=h2;exact⟨g,fun h=>by rw[g,o];exact h,by unfold Cn.Cu;rw[g,o];show _+(_+(d.sc.i1 1 []).free)<=_;omega⟩
 have t:Cn.tries { d with sc:=d.sc.i1 1 [],tm:=d.tm.i1 now 1 }<=12:=l;generalize ({ d with sc:=d.sc.i1 1 [],tm:=d.tm.i1 now 1 }:Cn)=e at m n t;have u:=(m.step i t 3).EJ dx;have w:Em (e.step now 3) ({ e.step now 3 with dl:=eE }:Cn) 0 0:=.same _ _ Z Z Z;exact(((((b.trans n).trans (Cn.DA e now 3)).trans w).trans (ek _)).trans (dB u.i2 i)).mono O O
theorem vP {c:Cn}(ok:c.Ok){now:Int}(a:aI now){s:Sg}(hs:s.Ok):Em c (c.Cw now s).1 (c.Cw now s).2.length 1:=by
 have b:=bP s.sq (aw c.A2 1);unfold Cn.Cw;dsimp only;split
 ·exact(gI c now 8 181).mono IK O
 split
 ·exact(Em.refl c).mono IK O
 split
 ·exact yM ok a hs
 split
 ·exact((ek c).trans (dB ok.i2 a)).mono O O
 split
 ·exact(Em.refl c).mono IK O
 exact sH ok a hs b
theorem sI {c:Cn}(ok:c.Ok){now:Int}(a:aI now){s:Sg}(hs:s.Ok):Em c (c.receive now s).1 (c.receive now s).2.length 1:=by
 unfold Cn.receive;split
 ·exact(Em.refl c).mono IK O
 split
 ·exact(Em.refl c).mono IK O
 split
 ·exact yN ok a hs
 exact vP ok a hs
theorem qp {c:Cn}(ok:c.Ok)(g:Cg)(m:Int):Em c { c with cg:=g,sc:=c.sc.timeout,mark:=m } 0 c.flight:=by
 have h0:=ok.sc.Fz;have a:Cn.last { c with cg:=g,sc:=c.sc.timeout,mark:=m }=c.last:=Z;have b:Cn.next { c with cg:=g,sc:=c.sc.timeout,mark:=m }=c.next:=Z;have l:=Sc.EY c.sc;have i:c.flight=c.sc.next-c.sc.gi:=Z;exact⟨a,fun h=>by rw[a,b];exact h,by unfold Cn.Cu;rw[a,b];show _+(_+c.sc.timeout.free)<=_;omega⟩
theorem vQ {c:Cn}(ok:c.Ok):Em c c.expire.1 c.expire.2.length c.flight:=by
 have b:=ok.gi;have g:c.flight=c.next-c.gi:=Z;have a:c.kc=max 0 (c.last-c.next):=Z;unfold Cn.expire;split
 ·exact(qp ok _ _).mono IK O
 split
 ·exact(Em.refl c).mono IK O
 exact(oC ok (n:=max 1 (min (min c.go (c.limit-c.next)) c.kc)) O O (.inl O)).mono IK O
theorem ma {c:Cn}(ok:c.Ok){now:Int}(g:aI now)(l:List Sg):Em c (c.sg now l).1 (((c.sg now l).2.length:Int)-l.length) 1:=by
 unfold Cn.sg;dsimp only;have b:∀a:Cn,a.Ok->Em c a 0 0->Em c (a.push now).1 (((l++(a.push now).2).length:Int)-l.length) 1:=fun a o e=>(e.trans (dB o g)).mono Jb O;split
 ·exact b _ ok.i2 (ek c)
 exact b _ ok (.refl c)
theorem AH {c:Cn}(ok:c.Ok){now:Int}(a:aI now):Em c (c.tick now).1 (c.tick now).2.length (1+c.flight):=by
 have o:=ok.gi;have s:c.flight=c.next-c.gi:=Z;unfold Cn.tick;split
 ·exact(Em.refl c).mono IK O
 rename_i h0;have t:=ok.tr2 h0;have l:=ok.tr;split
 ·exact(gI c now 9 0).mono IK O
 split
 ·dsimp only;have m:Em c ({ c with tries:=c.tries+1 }:Cn) 0 0:=.same _ _ Z Z Z;split
  ·exact((m.trans (gI _ now 9 182))).mono IK O
  rename_i n
  have b:0<=c.tm.rl.kf.value/\c.tm.rl.kf.value<=1000:=by
   have h1:=c.tm.rl.kf.Dy;have h2:(0:Int)<=c.tm.rl.kf.base*2 ^ c.tm.rl.kf.backs.toNat:=MV O (Ni D);unfold Tm.value;omega
  have g:Cn.Ok { c with tries:=c.tries+1,tm:=c.tm.rl.kf,dl:=.Ck now c.tm.rl.kf.value } :=
   { ok with tr:=by have:=ok.tr;dsimp only;omega,tr2:=fun _=>by dsimp only;omega,tm:=Tm.D4 (Tm.A3 ok.tm),dl:=Al.Cz a b.1 b.2 }
  have i:Em c ({ c with tries:=c.tries+1,tm:=c.tm.rl.kf,dl:=.Ck now c.tm.rl.kf.value }:Cn) 0 0:=.same _ _ Z Z Z;have u:Cn.flight { c with tries:=c.tries+1,tm:=c.tm.rl.kf,dl:=.Ck now c.tm.rl.kf.value }=c.flight:=Z;split
  ·exact((i.trans (vQ g)).trans (ma g.expire a _)).mono O O
  have h:=i.trans (Cn.FA _);exact⟨h.last,h.nl,by have:=h.Cu;simp;omega⟩
 exact(ma ok a []).mono IK O
theorem AI {c:Cn}(ok:c.Ok){now:Int}(b:aI now)(n:Int):Em c (c.recv now n).1 (c.recv now n).2.length 1:=by
 unfold Cn.recv;split
 ·exact(Em.refl c).mono IK O
 dsimp only;have g:=ok.take n;have a:Em c ({ c with bx:=c.bx.take n }:Cn) 0 0:=.same _ _ Z Z Z;split
 ·exact a.mono IK O
 split
 ·exact a.mono IK O
 exact((a.trans (ek _)).trans (dB g.i2 b)).mono O O
theorem yO {c:Cn}(ok:c.Ok){now:Int}(a:aI now):Em c (c.close now).1 (c.close now).2.length 1:=by
 unfold Cn.close;split
 ·exact(Em.refl c).mono IK O
 rename_i h0;dsimp only;have g:Cn.Ok { c with shut:=true }:={ ok with };have b:Em c ({ c with shut:=true }:Cn) 0 0:=.same _ _ Z Z Z;have i:Cn.tries { c with shut:=true }<=12:=ok.tr2 (fun h=>h0 (.inl h));split
 ·exact(b.trans (gI _ now 5 183)).mono IK O
 split
 ·exact(b.trans (dB g a)).mono O O
 exact((b.trans (Cn.DA _ now 5)).trans (dB (g.step a i 5) a)).mono O O
theorem AJ {c:Cn}(ok:c.Ok){now:Int}(g:aI now)(s:List UInt8)(n:c.last+s.length<=1073741824):(c.send now s).1.last=c.last+(if c.refusal≠0 then 0 else c.pd s)/\(c.next<=c.last+1->(c.send now s).1.next<=(c.send now s).1.last+1)/\(c.send now s).2.length+(c.send now s).1.Cu<=c.Cu+2*s.length+1:=by
 unfold Cn.send;by_cases a:c.refusal≠0
 ·rw[L9 a,L9 a];exact⟨IN,id,by dsimp only;rw[M4];omega⟩
 rw[L7 a,L7 a];have h0:0<=c.pd s/\c.pd s<=s.length:=Kf
 have b:Cn.last { c with held:=c.held++s.take (c.pd s).toNat }=c.last+c.pd s:=by
  unfold Cn.last;dsimp only;rw[Lc,Lg];omega
 have i:Cn.next { c with held:=c.held++s.take (c.pd s).toNat }=c.next:=Z;have o:Cn.Cu { c with held:=c.held++s.take (c.pd s).toNat }=c.Cu+2*c.pd s:=by unfold Cn.Cu;rw[b,i];dsimp only;omega
 have l:=b;unfold Cn.last at l;have m:Cn.Ok { c with held:=c.held++s.take (c.pd s).toNat }:={ ok with b1:=Jn};have:=dB m g;exact⟨this.last.trans b,fun h=>this.nl O,by have:=this.Cu;omega⟩
section
structure E2 (s:Sd):Prop where
 c:s.c.Ok
 len:s.all.length<=1000
 s0:0<=s.sent
 sl:s.sent<=s.all.length
 last:s.c.last=1+s.sent
 nl:s.c.next<=s.c.last+1
theorem E2.Cu {s:Sd}(h:E2 s):0<=s.c.Cu:=by
 have:=h.c.sc.Fz;have:=h.nl;unfold Cn.Cu;omega
theorem E2.flight {s:Sd}(h:E2 s):s.c.flight<=1002:=by
 have:=h.c.gi;have:=h.nl;have:=h.last;have:=h.sl;have:=h.len;have a:s.c.flight=s.c.next-s.c.gi:=Z;omega
theorem E2.em {s:Sd}(h:E2 s){d:Cn}(a:d.Ok){k j:Int}(e:Em s.c d k j):E2 { s with c:=d } :=
 ⟨a,h.len,h.s0,h.sl,e.last.trans h.last,e.nl h.nl⟩
namespace Pr
def rem (p:Pr):Int:=max 0 ((p.kq.length:Int)-p.many)
def Q (p:Pr):Int:=p.wire.length+p.rem+p.a.c.Cu+p.b.c.Cu
def R (p:Pr):Int:=p.log.length+p.a.c.Cu+p.b.c.Cu
structure Fit (p:Pr)(q r:Int):Prop where
 a:E2 p.a
 b:E2 p.b
 now:0<=p.now/\p.now<=1000000
 wire:∀f∈p.wire,f.s.Ok
 due:∀f∈p.wire,0<=f.due/\f.due<=1000100
 log:∀f∈p.log,f.s.Ok
 q:p.Q<=q
 r:p.R<=r
variable {p : Pr} {q r : Int}
theorem Fit.mono (h:Fit p q r){q' g:Int}(i:q<=q')(l:r<=g):Fit p q' g:=⟨h.a,h.b,h.now,h.wire,h.due,h.log,LE h.q i,LE h.r l⟩
theorem Fit.sd (h:Fit p q r)(i:Bool):E2 (p.sd i):=by cases i;exact h.a;exact h.b
theorem Fit.Cq (h:Fit p q r):aI p.now:=by have:=h.now;unfold aI;omega
theorem Fit.Ei (h:Fit p q r):(p.wire.length:Int)<=q:=by
 have:=h.q;have:=h.a.Cu;have:=h.b.Cu;unfold Q rem at *;omega
theorem Fit.llen (h:Fit p q r):(p.log.length:Int)<=r:=by
 have:=h.r;have:=h.a.Cu;have:=h.b.Cu;unfold R at *;omega
theorem yP (p:Pr)(f:Fl):(p.D6 f).length<=1\/((p.D6 f).length=2/\p.many<p.kq.length):=by
 by_cases h:p.many<p.kq.length
 ·unfold D6
  (repeat' split) <;> simp[h]
 have e:p.Ch=0:=by unfold Ch;rw[N4 O]
 unfold D6;rw[L9 e];exact .inl IK
theorem AK (p:Pr){f:Fl}(h:f.s.Ok):∀g∈p.D6 f,g.s.Ok:=by
 intro g a;unfold D6 at a
 (repeat' split at a) <;> simp at a <;> rw[a] <;> exact h
theorem AL (p:Pr):0<=p.Ch/\p.Ch<24:=by
 unfold Ch;split
 ·exact ah _ 24 D
 exact⟨D,D⟩
theorem yQ (p:Pr)(b:0<=p.now/\p.now<=1000000){f:Fl}(h:0<=f.due/\f.due<=1000100):∀g∈p.D6 f,0<=g.due/\g.due<=1000100:=by
 intro g a;have i:=AL p;unfold D6 at a
 (repeat' split at a) <;> simp at a <;> rw[a]
 ·exact h
 ·exact h
 ·exact h
 dsimp only;omega
theorem yR (h:Fit p q r)(i:Bool){s:Sg}(hs:s.Ok):Fit (p.z7 i s) (q+1) (r+1):=by
 refine⟨h.a,h.b,h.now,?_,?_,?_,?_,?_⟩
 ·intro f g
  rcases LH.1 g with g | g
  ·exact h.wire f g
  exact AK p (show(p.fl i s).s.Ok from hs) f g
 ·intro f g
  rcases LH.1 g with g | g
  ·exact h.due f g
  exact yQ p h.now (f:=p.fl i s) (by have:=h.now;unfold fl;dsimp only;omega) f g
 ·intro f g
  rcases LH.1 g with g | g
  ·exact h.log f g
  rw[Ly.1 g];exact hs
 ·have m:=h.q;have l:=yP p (p.fl i s);unfold Q rem z7 at *;dsimp only;rw[Lc]
  rcases l with l | ⟨l,n⟩ <;> omega
 have o:=h.r;unfold R z7 at *;dsimp only;rw[Lc,Mr];omega
theorem FB (i:Bool):∀(l:List Sg) {p:Pr} {q r:Int},Fit p q r->(∀x∈l,x.Ok)->Fit (p.put i l) (q+l.length) (r+l.length):=by
 intro l
 induction l with
 | nil=>intro p q r h _;exact h.mono IK IK
 | cons s l b =>
  intro p q r h a;have h1:=yR h i (a s IK);exact(b h1 (fun x g=>a x (by simp[g]))).mono IM IM
theorem mc (i:Bool):∀(l:List Sg) (p:Pr),(p.put i l).a=p.a/\(p.put i l).b=p.b/\(p.put i l).now=p.now/\(p.put i l).kq=p.kq:=by
 intro l
 induction l with
 | nil=>intro p;exact⟨Z,Z,Z,Z⟩
 | cons s l g=>intro p;exact g (p.z7 i s)
theorem oD (h:Fit p q r)(i:Bool){d:Sd}(l:E2 d){j:Int}(m:d.c.Cu<=(p.sd i).c.Cu+j):Fit (p.kl i d) (q+j) (r+j):=by
 have n:=h.q;have o:=h.r
 cases i with
 | false =>
  have g:d.c.Cu<=p.a.c.Cu+j:=m;refine⟨l,h.b,h.now,h.wire,h.due,h.log,?_,?_⟩
  ·unfold Q rem kl at *;dsimp only;omega
  unfold R kl at *;dsimp only;omega
 | true =>
  have g:d.c.Cu<=p.b.c.Cu+j:=m;refine⟨h.a,l,h.now,h.wire,h.due,h.log,?_,?_⟩
  ·unfold Q rem kl at *;dsimp only;omega
  unfold R kl at *;dsimp only;omega
theorem ju (h:Fit p q r)(i:Bool){d:Sd}{l:List Sg}(a:E2 d)(b:∀x∈l,x.Ok){j:Int}(g:l.length+d.c.Cu<=(p.sd i).c.Cu+j):Fit ((p.kl i d).put i l) (q+j) (r+j) :=
 (FB i l (oD h i a (j:=j-l.length) O) b).mono O O
theorem D5 (h:Fit p q r){f:Fl}(a:f.s.Ok):Fit (p.kd f) (q+1) (r+1):=by
 have hs:=h.sd f.dst;have e:=sI hs.c h.Cq a;exact ju h f.dst (hs.em (hs.c.receive h.Cq a) e) (hs.c.Fm h.Cq a) e.Cu
theorem F9:∀(l:List Fl) {p:Pr} {q r:Int},Fit p q r->(∀f∈l,f.s.Ok)->Fit (l.foldl kd p) (q+l.length) (r+l.length):=by
 intro l
 induction l with
 | nil=>intro p q r h _;exact h.mono IK IK
 | cons f l b =>
  intro p q r h a;exact(b (D5 h (a f IK)) (fun x g=>a x (by simp[g]))).mono IM IM
theorem jw {α:Type}(P:α->Bool):∀l:List α,(l.filter P).length+(l.filter fun x=> !P x).length=l.length:=by
 intro l
 induction l with
 | nil=>rfl
 | cons x l a=>by_cases h:P x=true <;> simp[h] <;> omega
theorem ta (p:Pr):p.due.length+p.rest.length=p.wire.length:=by
 have h1:=jw (A4 p.now) p.wire;have h2:=jw (Cd p.now (EI p.now p.wire)) (DZ p.now p.wire);unfold due rest;rw[Lc];have a:(EI p.now p.wire).length=(p.wire.filter (A4 p.now)).length:=Z;have b:(DZ p.now p.wire).length=(p.wire.filter fun x=> !A4 p.now x).length:=Z;omega
theorem DW {p:Pr}{f:Fl}(h:f∈p.due):f∈p.wire:=by
 unfold due EI DZ at h
 rcases LH.1 h with h | h
 ·exact(M3.1 h).1
 exact(M3.1 (M3.1 h).1).1
theorem E9 {p:Pr}{f:Fl}(h:f∈p.rest):f∈p.wire:=by
 unfold rest DZ at h;exact(M3.1 (M3.1 h).1).1
theorem EB (h:Fit p q r):Fit { p with wire:=p.rest } (q-p.due.length) r :=
 ⟨h.a,h.b,h.now,fun f g=>h.wire f (E9 g),fun f g=>h.due f (E9 g),h.log,by have:=h.q;have:=ta p;unfold Q rem at *;dsimp only;omega,h.r⟩
theorem DS (h:Fit p q r):Fit p.deliver q (r+q):=by
 have h1:=F9 p.due (EB h) (fun f a=>h.wire f (DW a));have h2:=h.Ei;have b:=ta p;exact h1.mono O O
theorem C8 (h:Fit p q r)(i:Bool):Fit (p.kp i) (q+1003) (r+1003):=by
 have hs:=h.sd i;have e:=AH hs.c h.Cq;have a:=hs.flight;exact ju h i (hs.em (hs.c.tick h.Cq) e) (hs.c.Gs h.Cq) (by have:=e.Cu;dsimp only;omega)
theorem Ea:∀(l:List Fl) (p:Pr),(l.foldl kd p).now=p.now/\(l.foldl kd p).kq=p.kq/\(l.foldl kd p).a.all=p.a.all/\(l.foldl kd p).b.all=p.b.all:=by
 intro l
 induction l with
 | nil=>intro p;exact⟨Z,Z,Z,Z⟩
 | cons f l g =>
  intro p;have h:=g (p.kd f);have k:=mc f.dst ((p.sd f.dst).c.receive p.now f.s).2 (p.v6 f.dst ((p.sd f.dst).c.receive p.now f.s).1);have e:p.kd f=(p.v6 f.dst ((p.sd f.dst).c.receive p.now f.s).1).put f.dst ((p.sd f.dst).c.receive p.now f.s).2:=Z;rw[Nn,h.1,h.2.1,h.2.2.1,h.2.2.2,e,k.1,k.2.1,k.2.2.1,k.2.2.2]
  cases f.dst <;> exact⟨Z,Z,Z,Z⟩
theorem yS (p:Pr):p.tick.now=p.now+1/\p.tick.kq=p.kq/\p.tick.a.all=p.a.all/\p.tick.b.all=p.b.all:=by
 have h:=Ea ({ p with now:=p.now+1 }:Pr).due { ({ p with now:=p.now+1 }:Pr)with wire:=({ p with now:=p.now+1 }:Pr).rest }
 have g:∀(x:Pr) (i:Bool),(x.kp i).now=x.now/\(x.kp i).kq=x.kq/\(x.kp i).a.all=x.a.all/\(x.kp i).b.all=x.b.all:=by
  intro x i;have k:=mc i ((x.sd i).c.tick x.now).2 (x.v6 i ((x.sd i).c.tick x.now).1);have e:x.kp i=(x.v6 i ((x.sd i).c.tick x.now).1).put i ((x.sd i).c.tick x.now).2:=Z;rw[e,k.1,k.2.1,k.2.2.1,k.2.2.2]
  cases i <;> exact⟨Z,Z,Z,Z⟩
 have l:=g ({ p with now:=p.now+1 }:Pr).deliver false;have m:=g (({ p with now:=p.now+1 }:Pr).deliver.kp false) true;have e:p.tick=(({ p with now:=p.now+1 }:Pr).deliver.kp false).kp true:=Z;have d:({ p with now:=p.now+1 }:Pr).deliver=({ p with now:=p.now+1 }:Pr).due.foldl kd { ({ p with now:=p.now+1 }:Pr)with wire:=({ p with now:=p.now+1 }:Pr).rest }:=Z;rw[e,m.1,m.2.1,m.2.2.1,m.2.2.2,l.1,l.2.1,l.2.2.1,l.2.2.2,d,h.1,h.2.1,h.2.2.1,h.2.2.2];exact⟨Z,Z,Z,Z⟩
theorem yT (h:Fit p q r)(g:p.now+1<=1000000):Fit p.tick (q+2010) (r+q+2010):=by
 have h0:Fit { p with now:=p.now+1 } q r:=⟨h.a,h.b,⟨by have:=h.now;dsimp only;omega,g⟩,h.wire,h.due,h.log,h.q,h.r⟩;exact(C8 (C8 (DS h0) false) true).mono O O
theorem Dr {s:Sd}(h:E2 s)(n:Int):((bytes s n).length:Int)<=s.all.length-s.sent:=by
 have:=h.s0;have:=h.sl;unfold bytes;rw[Lt,Lg];omega
theorem DT (h:Fit p q r)(i:Bool)(n:Int):Fit (p.send i n) (q+2010) (r+2010):=by
 have hs:=h.sd i;unfold send;dsimp only;split
 ·exact h.mono O O
 split
 ·exact h.mono O O
 rename_i a;have a:¬(p.sd i).c.refusal≠0:=a;have o:=Dr hs n;have b:=hs.len;have g:=hs.sl;have s:=hs.last;have h0:=hs.s0;obtain⟨l,m,t⟩:=AJ hs.c h.Cq (bytes (p.sd i) n) O;rw[L7 a]at l;have u:0<=(p.sd i).c.pd (bytes (p.sd i) n)/\(p.sd i).c.pd (bytes (p.sd i) n)<=(bytes (p.sd i) n).length:=Kf
 exact(ju h i (d:={ p.sd i with c:=((p.sd i).c.send p.now (bytes (p.sd i) n)).1,sent:=(p.sd i).sent+(p.sd i).c.pd (bytes (p.sd i) n) })
  ⟨hs.c.send h.Cq _ O,b,IN,IN,IN,m hs.nl⟩ (hs.c.Gt h.Cq _ O) (j:=2010) IN)
theorem DK (h:Fit p q r)(i:Bool)(n:Int):Fit (p.recv i n) (q+2010) (r+2010):=by
 have hs:=h.sd i;have e:=AI hs.c h.Cq n;have a:=hs.em (hs.c.recv h.Cq n) e;unfold recv;dsimp only;split
 ·exact(oD h i (j:=1) a (by have:=e.Cu;dsimp only;omega)).mono O O
 exact(ju h i (j:=1) (d:={ p.sd i with c:=((p.sd i).c.recv p.now n).1,got:=(p.sd i).got++(p.sd i).c.bx.ox n,fin:=(p.sd i).fin||(p.sd i).c.v8 n }) ⟨a.c,a.len,a.s0,a.sl,a.last,a.nl⟩ (hs.c.Gu h.Cq n) e.Cu).mono O O
theorem DU (h:Fit p q r)(i:Bool):Fit (p.shut i) (q+2010) (r+2010):=by
 have hs:=h.sd i;have e:=yO hs.c h.Cq;have a:=hs.em (hs.c.close h.Cq) e;unfold shut;dsimp only;split
 ·exact h.mono O O
 split
 ·exact h.mono O O
 exact(ju h i (j:=1) (d:={ p.sd i with c:=((p.sd i).c.close p.now).1,closed:=true }) ⟨a.c,a.len,a.s0,a.sl,a.last,a.nl⟩ (hs.c.G2 h.Cq) e.Cu).mono O O
def CG (p:Pr)(n:Int):Prop:=Fit p (3000*(n+1)) (15003000*(n+1))/\p.now<=n
theorem CG.tick {n:Int}(h:CG p n)(h0:0<=n)(a:n+1<=5000):CG p.tick (n+1) :=
 ⟨(yT h.1 (by have:=h.2;omega)).mono O O,by rw[(yS p).1];have:=h.2;omega⟩
end Pr
end
section
set_option maxHeartbeats 8000000
set_option maxRecDepth 100000
open Go.RowKit Go.Shelf
theorem qq (f:Fp) (c:Cn) (w:World) (h:kn f c w) (ok:c.Ok) :
  Calls Tryz.prog 75 #[f.C] w (eA f w c.expire.2 c.expire.1):=by
 have a1:=h.gl.top;have u:=H ok;have b:=H h;have l:=H (ot.refl f w);have a4:=ok.flight;have hu:=ok.gi;obtain⟨a5,a6,a7⟩:=hu;have a9:=ok.kc;have b0:=ok.lim;have bu:=ok.go;clear h ok;by_cases I:0<c.flight
 ·have K:=H (show c.expire=({ c with cg:=c.cg.timeout c.flight,sc:=c.sc.timeout,mark:=c.next },[]) by unfold Cn.expire;rw[L9 I]);rw[K.o]
  go_enter Tryz.func75,Tryz.ntmps75
  go_wp2_with fail;refine(dS f c _ b.o u.sc).mono ?_;rintro e M⟨rfl,g⟩;replace l:=H (l.trans (.Da g));replace b:=H (b.below g);clear g;have hd:decide (0<c.flight)=true:=Le I;have c2:=b.cell 2 f.G Z;go_wp2_with fail;refine az (fun W:World=>W.cell? ⟨f.C,2,none⟩=some (f.G:Y)) (c2) fun m=>?_;have g:=(L5 M.heap.size M).drew;replace l:=H (l.trans (.Da g));replace b:=H (b.below g);clear g c2;generalize M.drew=J at b l m|-;refine aA 0 1 2 3 ?_;refine aA 4 5 6 7 ?_;refine aM 9 10 ?_;refine aQ 11 ?_;refine aY 8 fun t i=> ?_;go_simp;refine(dS f c J b.o u.sc).mono ?_;rintro e X⟨rfl,g⟩;replace l:=H (l.trans (.Da g));replace b:=H (b.below g);clear g;go_simp;refine i.out _ _ (b.cell 2 _ Z) ?_;clear i t m;refine fun m=>aW ?_;refine aY 12 fun t i=> ?_;go_simp;refine(aZ f c X b.o).mono ?_;rintro e w4⟨rfl,g⟩;replace l:=H (l.trans (.Da g));replace b:=H (b.below g);clear g;go_simp;refine i.out _ _ (b.cell 2 _ Z) ?_;clear i t m;refine fun m=>aW ?_;refine aY 13 fun t i=> ?_;go_simp;refine(qS f.G c.cg c.flight c.next (by unfold aI;omega) u.cg w4 b.cg).mono ?_;rintro e E⟨rfl,hs,A⟩;replace l:=H (l.trans (.Hy A));have B:=H (b.I3 hs A);clear hs A b;go_simp;refine i.out _ _ (B.cell 2 _ Z) ?_;clear i t m;refine fun m=>aW ?_;refine ay ?_ _;clear m;have c0:=B.cell 0 f.S Z;go_wp2_with fail;refine(nS f.S (f.S+1) c.sc _ B.sc).mono ?_;rintro e w6⟨rfl,hs,A⟩;replace l:=H (l.trans (.F6 A));have x:=H (B.G3 hs A);clear hs A B c0;go_wp2_with fail;refine(aZ f _ _ x.o).mono ?_;rintro e w7⟨rfl,g⟩;replace l:=H (l.trans (.Da g));replace x:=H (x.below g);clear g;have b1:=x.cell 10 c.mark Z;have b2:=x.free 10;go_wp2;go_ret;exact⟨_,Z,aL.nil _ _,x.set 10 _ _ Z Z Z Z Z,l.trans (.DO ((nF.refl _ _).setCell 10 _))⟩
 by_cases hz:c.kc=0
 ·have K:=H (show c.expire=(c,[]) by unfold Cn.expire;rw[L7 I,L9 hz]);rw[K.o];have hd:decide (0<c.flight)=false:=Lh I
  go_enter Tryz.func75,Tryz.ntmps75
  go_wp2_with fail;refine(dS f c _ b.o u.sc).mono ?_;rintro e M⟨rfl,g⟩;replace l:=H (l.trans (.Da g));replace b:=H (b.below g);clear g;go_wp2_with fail;refine(fR f c _ b.o u.sc (jr u.o) (js u.o)).mono ?_;rintro e J⟨rfl,g⟩;replace l:=H (l.trans (.Da g));replace b:=H (b.below g);clear g;rw[hz];go_wp2;go_ret;exact⟨_,Z,aL.nil _ _,b.o,l.o⟩
 obtain⟨n,hn⟩:∃n,n=max 1 (min (min c.go (c.limit-c.next)) c.kc):=⟨_,Z⟩;have K:=H (show c.expire=(c.qa n,[c.kr n]) by unfold Cn.expire;rw[L7 I,L7 hz,<-hn]);rw[K.o];have b8:=H hn;have b3:0<=n/\n<=1000:=O
 clear hn;have hd:decide (0<c.flight)=false:=Lh I
 go_enter Tryz.func75,Tryz.ntmps75
 go_wp2_with fail;refine(dS f c _ b.o u.sc).mono ?_;rintro e M⟨rfl,g⟩;replace l:=H (l.trans (.Da g));replace b:=H (b.below g);clear g;have bv:(c.kc==0)=false:=Ln.2 hz;go_wp2_with fail;refine(fR f c _ b.o u.sc (jr u.o) (js u.o)).mono ?_;rintro e J⟨rfl,g⟩;replace l:=H (l.trans (.Da g));replace b:=H (b.below g);clear g;have c7:=b.cell 7 c.go Z;have c5:=b.cell 5 c.limit Z;go_wp2_with fail;refine az (fun W:World=>W.cell? ⟨f.C,7,none⟩=some (c.go:Y)/\W.cell? ⟨f.C,5,none⟩=some (c.limit:Y)) (⟨c7,c5⟩) fun m=>?_;have g:=(L5 J.heap.size J).drew;replace l:=H (l.trans (.Da g));replace b:=H (b.below g);clear g c7 c5;generalize J.drew=X at b l m|-;refine aA 0 1 2 3 ?_;refine aA 4 5 6 7 ?_;refine aA 8 9 10 11 ?_;refine aM 12 13 ?_;refine aQ 16 ?_;refine aY 14 fun t i=> ?_;go_simp;refine(aZ f c X b.o).mono ?_;rintro e w4⟨rfl,g⟩;replace l:=H (l.trans (.Da g));replace b:=H (b.below g);clear g;go_simp;refine i.out _ _ (⟨b.cell 7 c.go Z,b.cell 5 c.limit Z⟩) ?_;clear i t m;refine fun m=>aW ?_;have N:IntKind.i64.wrap (c.limit-c.next)=c.limit-c.next:=LF _ O;refine aQ 15 (v:=.int .i64 (c.limit-c.next)) ?_ (hy:=by intro w z;(obtain⟨z0,z1⟩:=z);go_simp;(try exact N));clear N;refine aQ 17 (v:=.int .i64 (min (min c.go (c.limit-c.next)) c.kc)) ?_ (hy:=by intro w z;(obtain⟨z0,z1⟩:=z);go_simp;(try (split <;> (try split) <;> omega)));obtain⟨n1,F⟩:∃n1,n1=min (min c.go (c.limit-c.next)) c.kc:=⟨_,Z⟩;rw[<-F];have bI:n=max 1 n1:=by rw[b8.o,F]
 refine aQ 18 (v:=.int .i64 n) ?_ (hy:=by intro w z;(obtain⟨z0,z1⟩:=z);go_simp;(try (rw[bI];first | (split <;> omega) | omega)));clear F bI;refine aY 19 fun t i=> ?_;go_simp;refine(jR f c n w4 b.o u.o O).mono ?_;rintro e E⟨a,s,rfl,P,A,T⟩;replace l:=H (l.trans T);have B:=H A;have V:=H P;clear A T P b;unfold dY;go_simp;refine i.out _ _ (⟨B.cell 7 c.go Z,B.cell 5 c.limit Z⟩) ?_;clear i t m;refine fun m=>aW ?_;have U:=(L5 E.heap.size E).alloc (L6 _) (.cells (aX (c.kr n,a,s)).toArray 53);have HN:=H (bj (aS.new E (c.kr n,a,s)));have x:=H (B.below U);refine aY 20 fun t i=> ?_;go_simp;refine i.out _ _ ((show(E.alloc (.cells (aX (c.kr n,a,s)).toArray 53)).cell? ⟨f.C,7,none⟩=some (c.go:Y)/\(E.alloc (.cells (aX (c.kr n,a,s)).toArray 53)).cell? ⟨f.C,5,none⟩=some (c.limit:Y)from⟨x.cell 7 c.go Z,x.cell 5 c.limit Z⟩)) ?_;clear i t m;refine fun m=>aW ?_;change wpAnyH _ _ _ _ _ _ _ _ (E.alloc (.cells (aX (c.kr n,a,s)).toArray 53));replace l:=H (l.trans (.Da U));replace V:=H (V.keep U.size (.below U));clear U B;generalize E.heap.size=NB at HN|-;generalize E.alloc (.cells (aX (c.kr n,a,s)).toArray 53)=w6 at HN x l V m|-;refine aY 21 fun t i=> ?_;go_simp;change Calls _ _ #[Value.slice none 0 0,Value.slice (some ⟨NB,0,none⟩) [((c.kr n,a,s):cP)].length 1] _ _;refine(cN w6 w.heap.size _ [] (cI.nil _ _) NB 0 1 [(c.kr n,a,s)] HN.o (fun y hy=>by rw[Ly.1 hy];exact V.o) IK l.size).mono ?_;rintro e w8⟨v',rfl,h1,h2,-⟩;have aC:=H (x.grown h2 (fun k e=>by cases e));have aF:=H (l.grown h2 (fun k e=>by cases e));have HL:=H (show aL w8 w.heap.size v' [c.kr n]from⟨_,Z,h1⟩);clear h1 h2;go_simp;refine i.out _ _ ⟨aC.cell 7 c.go Z,aC.cell 5 c.limit Z⟩ ?_;clear i t m;refine fun m=>aW ?_;refine aQ 22 ?_;refine ay ?_ _;clear m;go_wp2;go_ret;exact⟨_,Z,HL.o,aC.o,aF.o⟩
end
section
set_option maxHeartbeats 8000000
set_option maxRecDepth 100000
open Go.RowKit Go.Shelf
structure Lw (f:Fp)(w0:World)(v:Value)(L:List Sg)(c:Cn)(W:World):Prop where
 cn:kn f c W
 ch:ot f w0 W
 own:aL W w0.heap.size v L
namespace Lw
variable {f : Fp} {c d : Cn} {w0 W W' : World} {v : Value} {L : List Sg}
theorem start (h:kn f c W):Lw f W (.slice none 0 0) [] c W:=⟨h,.refl _ _,.nil _ _⟩
theorem qn (h:Lw f w0 v L c W)(a:Below W.heap.size W W'):Lw f w0 v L c W':=⟨h.cn.below a,h.ch.trans (.Da a),h.own.below a⟩
theorem call (h:Lw f w0 v L c W)(b:kn f d W')(a:ot f W W'):Lw f w0 v L d W':=⟨b,h.ch.trans a,h.own.xs h.cn a⟩
end Lw
theorem aL.ty {w:World}{base:Nat}{v:Value}{L:List Sg}(h:aL w base v L):∀k,v.ownBlock=some k->dW w k 53:=by
 obtain⟨M,e,h⟩:=h;exact h.ty
theorem aL.lo {w:World}{base:Nat}{v:Value}{L:List Sg}(h:aL w base v L):∀k,v.ownBlock=some k->base<=k:=by
 obtain⟨M,e,h⟩:=h;exact fun k e=>(h.lt k e).1
theorem aL.low {w:World}{base b':Nat}{v:Value}{L:List Sg}(h:aL w base v L)(a:b'<=base):aL w b' v L:=by
 obtain⟨M,e,h⟩:=h;exact⟨M,e,h.mono a⟩
def Bs (w:World)(base:Nat)(v:Value)(L:List Sg)(e:Ending)(w':World):Prop:=∃v',e= .returned v'/\aL w' base v' L/\w.grownBy w' v.ownBlock
theorem gJ (w:World)(base u:Nat)(v o:Value)(L M:List Sg)(h:aL w base v L)(h2:aL w u o M)(s:L.length+M.length<=1300000000000)(b:base<=w.heap.size) :
  Calls Tryz.prog 31 #[v,o] w (Bs w base v (L++M)):=by
 obtain⟨l,rfl,h⟩:=h;obtain⟨m,rfl,h2⟩:=h2;rw[LM,LM]at s;by_cases x:0<m.length
 ·obtain⟨g,i,rfl,y,z,t,n⟩:=h2.cells x;refine(cN w base v l h g 0 i m n h2.2 s b).mono ?_;rintro e w' ⟨v',rfl,A,B,-⟩;exact⟨v',Z,⟨l++m,by rw[LQ],A⟩,B⟩
 obtain rfl:m=[]:=LU O;obtain⟨a,i,rfl,-,-⟩:=h2.val;refine(vF w base v l h a i).mono ?_;rintro e w' ⟨rfl,rfl⟩;exact⟨v,Z,⟨l,IK,h⟩,⟨Z,Z,Z,L6 _,fun _ _ _=>rfl⟩⟩
theorem gK {c:Cn}(ok:c.Ok)(now:Int):(c.push now).2.length<=1250000000001:=by
 unfold Cn.push;split
 ·simp
 dsimp only
 have h1:(if ae c.st=true then c.qb now else(c,[])).2.length<=1250000000000:=by
  split
  ·exact nz ok now
  simp
 generalize (if ae c.st=true then c.qb now else(c,[]))=a at h1|-;unfold Cn.tt;split
 ·rw[Lc,Mr];omega
 dsimp only;omega
theorem sJ (c:Cn):c.expire.2.length<=1:=by
 unfold Cn.expire;split
 ·simp
 split <;> simp
def Cn.Gz (c:Cn):Cn:={ c with tries:=c.tries+1 }
def Cn.back (c:Cn)(now:Int):Cn:={ c with tries:=c.tries+1,tm:=c.tm.rl.kf,dl:=.Ck now c.tm.rl.kf.value }
theorem Cn.GA (c:Cn)(now:Int):c.tick now =
 if c.st=0 then(c,[])
 else if c.st=9/\c.per.due now=true then(c.finish now 9 0,[])
 else if c.dl.due now=true then(if 12<c.tries+1 then(c.Gz.finish now 9 182,[])else if bf c.st=true then(c.back now).expire.1.sg now (c.back now).expire.2 else((c.back now).Cc,[(c.back now).x7]))
 else c.sg now []:=Z
theorem Cn.z6 (c:Cn)(now:Int)(l:List Sg):c.sg now l=(((if c.pend=1/\c.t8.due now=true then c.i2 else c).push now).1,l++((if c.pend=1/\c.t8.due now=true then c.i2 else c).push now).2):=rfl
theorem Cn.Ok.back {c:Cn}(h:c.Ok){now:Int}(b:aI now)(g:¬12<c.tries+1):(c.back now).Ok:=by
 have a:0<=c.tm.rl.kf.value/\c.tm.rl.kf.value<=1000:=by
  have h1:=c.tm.rl.kf.Dy;have h2:(0:Int)<=c.tm.rl.kf.base*2 ^ c.tm.rl.kf.backs.toNat:=MV O (Ni D);unfold Tm.value;omega
 exact { h with tr:=by have:=h.tr;show 0<=c.tries+1/\c.tries+1<=13;omega,tr2:=fun _=>by show c.tries+1<=12;omega,tm:=Tm.D4 (Tm.A3 h.tm),dl:=Al.Cz b a.1 a.2 }
theorem oE (f:Fp) (c:Cn) (now:Int) (w:World) (h:kn f c w) (ok:c.Ok) (hn:aI now) :
  Calls Tryz.prog 34 #[f.C,now] w (eA f w (c.tick now).2 (c.tick now).1):=by
 have G:=H hn;have x:=h.gl.top;have c3:=h.lt;have t:=H ok;have a:=H (Lw.start h);have b2:=ok.tr;obtain⟨b9,ba⟩:=b2;clear h ok hn;obtain⟨R,hR⟩:∃R,R=c.tick now:=⟨_,Z⟩;rw[<-hR];have i:=H (hR.trans (Cn.GA c now));clear hR
 go_enter Tryz.func34,Tryz.ntmps34
 go_wp2_with fail;refine(bh f c _ a.cn).mono ?_;rintro e w1⟨rfl,n⟩;replace a:=H (a.qn n);clear n;by_cases h0:c.st=0
 ·have b0:=H (i.trans (L9 h0));replace i:=b0;clear b0;have b8:decide (c.st=0)=true:=Le h0;clear h0;go_wp2;go_ret;exact⟨_,Z,by rw[i.o];exact aL.nil _ _,by rw[i.o];exact a.cn,a.ch⟩
 have H0:=H h0;have b8:decide (c.st=0)=false:=Lh h0;clear h0;replace i:=H (i.trans (by rw[L7 H0.o]));have a9:=a.cn.cell 28 c.st Z;by_cases h9:c.st=9
 focus
  have H9:=H h9;rw[h9]at a9;clear h9;have bb:=a.cn.cell 34 c.per.set Z;have bc:=a.cn.cell 35 c.per.since Z;have bd:=a.cn.cell 36 c.per.ticks Z;go_wp2_with fail;refine(jk c.per now _ G.o t.per.1 t.per.2).mono ?_;rintro e w2⟨rfl,n⟩;replace a:=H (a.qn n);clear n;clear bb bc bd a9;by_cases s:c.per.due now=true
  ·have u:=H s;have M:=s;clear s;replace i:=H (i.trans (by rw[L9 ⟨H9.o,u.o⟩]));go_wp2_with fail;refine(eN f c now 9 0 _ a.cn t.st D).mono ?_;rintro e z⟨rfl,l,g⟩;replace a:=H (a.call l g);clear l g;go_wp2;go_ret;exact⟨_,Z,by rw[i.o];exact aL.nil _ _,by rw[i.o];exact a.cn,a.ch⟩
  have u:=H s;have M:c.per.due now=false:=Ph
  clear s;replace i:=H (i.trans (by rw[L7 (fun h=>u.o h.2)]))
 rotate_left 1
 focus
  have H9:=H h9;have bz:(c.st==9)=false:=Ln.2 h9;clear h9;replace i:=H (i.trans (by rw[L7 (fun h=>H9.o h.1)]))
 all_goals
  have ad:=a.cn.cell 30 c.dl.set Z;have al:=a.cn.cell 31 c.dl.since Z;have am:=a.cn.cell 32 c.dl.ticks Z;go_wp2_with fail;refine(jk c.dl now _ G.o t.dl.1 t.dl.2).mono ?_;rintro e w2⟨rfl,n⟩;replace a:=H (a.qn n);clear n;clear ad al am;by_cases hd:c.dl.due now=true
  ·have HD:=H hd;have c0:=hd;clear hd;have c1:=a.cn.cell 1 f.T Z;have b3:=a.cn.cell 33 c.tries Z;have b4:=a.cn.free 33;have N:=H (a.call (a.cn.set 33 (c.tries+1:Int) c.Gz Z Z Z Z Z) (.DO ((nF.refl _ _).setCell 33 _)));by_cases U:12<c.tries+1
   ·have HV:=H U;replace i:=H (i.trans (by rw[L9 HD.o,L9 HV.o]));have be:decide (12<c.tries+1)=true:=Le U;clear U;go_wp2_with fail;replace a:=N;clear N b3 b4 c1;refine(eN f c.Gz now 9 182 _ a.cn t.st D).mono ?_;rintro e z⟨rfl,l,g⟩;replace a:=H (a.call l g);clear l g;go_wp2;go_ret;exact⟨_,Z,by rw[i.o];exact aL.nil _ _,by rw[i.o];exact a.cn,a.ch⟩
   have HV:=H U;have be:decide (12<c.tries+1)=false:=Lh U;have aa:=H (t.back G.o U);have b5:=H t.tm;clear U;go_wp2_with fail;replace a:=N;clear N b3 b4 c1;refine(qO f.T c.Gz.tm _ a.cn.tm).mono ?_;rintro e z⟨rfl,ht,g⟩;replace a:=H (a.call (a.cn.GM ht g) (.GL g));clear ht g;have c1:=a.cn.cell 1 f.T Z;go_wp2_with fail;clear c1;refine(qQ f.T c.tm.rl (Tm.A3 b5.o).1 _ a.cn.tm).mono ?_;rintro e z⟨rfl,ht,g⟩;replace a:=H (a.call (a.cn.GM ht g) (.GL g));clear ht g;have c1:=a.cn.cell 1 f.T Z;go_wp2_with fail;clear c1;refine(ia f.T c.tm.rl.kf (Tm.D4 (Tm.A3 b5.o)).1 _ a.cn.tm).mono ?_;rintro e w2⟨rfl,n⟩;replace a:=H (a.qn n);clear n;go_wp2_with fail;refine(dP _ _ _).mono ?_;rintro e w3⟨rfl,n⟩;replace a:=H (a.qn n);clear n;have ad:=a.cn.cell 30 c.dl.set Z;have al:=a.cn.cell 31 c.dl.since Z;have am:=a.cn.cell 32 c.dl.ticks Z;have b6:=a.cn.free 30;have b7:=a.cn.free 31;have a2:=a.cn.free 32;have a9:=a.cn.cell 28 c.st Z;have N:=H (a.call (((a.cn.set 30 true { c.back now with dl:=⟨true,c.dl.since,c.dl.ticks⟩ } Z Z Z Z Z).set 31 now { c.back now with dl:=⟨true,now,c.dl.ticks⟩ } Z Z Z Z Z).set 32 c.tm.rl.kf.value (c.back now) Z Z Z Z Z) (.DO ((((nF.refl _ _).setCell 30 _).setCell 31 _).setCell 32 _)));by_cases hy:bf c.st=true
   ·have HY:=H hy;have bk:fE c.st=true:=hy;clear hy;go_wp2_with fail;replace a:=N;clear N ad al am b6 b7 a2 a9;refine(bi c.st _).mono ?_;rintro e w2⟨rfl,rfl⟩;replace i:=H (i.trans (by rw[L9 HD.o,L7 (by have:=HV.o;omega),L9 HY.o]));generalize c.back now=b at a aa i;go_wp2_with fail;refine(qq f b _ a.cn aa.o).mono ?_;rintro e z⟨vL,rfl,hl,l,g⟩;have an:=H (show Lw f w vL b.expire.2 b.expire.1 z from⟨l,a.ch.trans g,aL.low hl a.ch.size⟩);have P:=H aa.expire;have S:=H (show b.expire.2.length<=1 from sJ b);clear hl l g a;generalize b.expire.1=d at an P i;generalize b.expire.2=L at an S i;have a:=an;clear an;have I:=a.cn.cell 18 d.pend Z;by_cases A:d.pend=1
    ·have J:=H A;rw[A]at I;clear A;have V:=a.cn.cell 19 d.t8.set Z;have X:=a.cn.cell 20 d.t8.since Z;have a0:=a.cn.cell 21 d.t8.ticks Z;go_wp2_with fail;refine(jk d.t8 now _ G.o P.t8.1 P.t8.2).mono ?_;rintro e w2⟨rfl,n⟩;replace a:=H (a.qn n);clear n;clear V X a0;by_cases s:d.t8.due now=true
     ·have u:=H s;have M:=s;clear s;go_wp2_with fail;clear M I;refine(cK f d _ a.cn).mono ?_;rintro e z⟨rfl,l,g⟩;replace a:=H (a.call l g);clear l g;go_wp2_with fail;refine(au f d.i2 now _ a.cn P.i2 G.o).mono ?_;rintro e z⟨v2,rfl,m,l,g⟩;replace a:=H (a.call l g);have K:=H m;clear m l g;go_wp2_with fail;refine(gJ _ w.heap.size _ _ _ L _ a.own K.o (by have:=gK P.i2 now;have:=S.o;omega) a.ch.size).mono ?_;rintro e wz⟨v',rfl,h1,h2⟩;have B:=H (a.cn.grown h2 (fun k e=>⟨aL.ty a.own k e,La x (aL.lo a.own k e)⟩));have E:=H (a.ch.grown h2 (fun k e=>aL.lo a.own k e));have F:=H h1;clear h1 h2;go_wp2;go_ret;exact⟨_,Z,by rw[i.o,Cn.z6,L9 ⟨J.o,u.o⟩];exact F.o,by rw[i.o,Cn.z6,L9 ⟨J.o,u.o⟩];exact B.o,E.o⟩
     have M:d.t8.due now=false:=Ph
     have u:=H M;clear s;go_wp2_with fail;refine(au f d now _ a.cn P.o G.o).mono ?_;rintro e z⟨v2,rfl,m,l,g⟩;replace a:=H (a.call l g);have K:=H m;clear m l g;go_wp2_with fail;refine(gJ _ w.heap.size _ _ _ L _ a.own K.o (by have:=gK P.o now;have:=S.o;omega) a.ch.size).mono ?_;rintro e wz⟨v',rfl,h1,h2⟩;have B:=H (a.cn.grown h2 (fun k e=>⟨aL.ty a.own k e,La x (aL.lo a.own k e)⟩));have E:=H (a.ch.grown h2 (fun k e=>aL.lo a.own k e));have F:=H h1;clear h1 h2;go_wp2;go_ret;exact⟨_,Z,PQ,PR,E.o⟩
    have J:=H A;have c2:(d.pend==1)=false:=Ln.2 A;clear A;go_wp2_with fail;refine(au f d now _ a.cn P.o G.o).mono ?_;rintro e z⟨v2,rfl,m,l,g⟩;replace a:=H (a.call l g);have K:=H m;clear m l g;go_wp2_with fail;refine(gJ _ w.heap.size _ _ _ L _ a.own K.o (by have:=gK P.o now;have:=S.o;omega) a.ch.size).mono ?_;rintro e wz⟨v',rfl,h1,h2⟩;have B:=H (a.cn.grown h2 (fun k e=>⟨aL.ty a.own k e,La x (aL.lo a.own k e)⟩));have E:=H (a.ch.grown h2 (fun k e=>aL.lo a.own k e));have F:=H h1;clear h1 h2;go_wp2;go_ret;exact⟨_,Z,by rw[i.o,Cn.z6,L7 (fun h=>J.o h.1)];exact F.o,by rw[i.o,Cn.z6,L7 (fun h=>J.o h.1)];exact B.o,E.o⟩
   have HY:=H hy;have bk:fE c.st=false:=by cases s:fE c.st with | false=>rfl | true=>exact absurd s hy
   clear hy;go_wp2_with fail;replace a:=N;clear N ad al am b6 b7 a2 a9;refine(bi c.st _).mono ?_;rintro e w2⟨rfl,rfl⟩;replace i:=H (i.trans (by rw[L9 HD.o,L7 (by have:=HV.o;omega),L7 HY.o]));generalize c.back now=b at a aa i;go_wp2_with fail;refine(jp f b _ a.cn aa.o).mono ?_;rintro e w4⟨ag,cg,rfl,b1,l,g⟩;replace a:=H (a.call l g);have av:=H b1;clear l g b1;unfold dY;have a3:=(L5 w4.heap.size w4).alloc (L6 _) (.cells (aX (b.x7,ag,cg)).toArray 53);have ax:=H (bj (aS.new w4 (b.x7,ag,cg)));replace av:=H (av.keep a3.size (.below a3));replace a:=H (a.qn a3);clear a3;go_wp2_with fail;change Calls _ _ #[Value.slice none 0 0,Value.slice (some ⟨w4.heap.size,0,none⟩) [((b.x7,ag,cg):cP)].length 1] (w4.alloc (.cells (aX (b.x7,ag,cg)).toArray 53)) _;generalize w4.heap.size=NB at ax|-;generalize w4.alloc (.cells (aX (b.x7,ag,cg)).toArray 53)=w6 at ax a av|-;refine(cN w6 w.heap.size _ [] (cI.nil _ _) NB 0 1 [(b.x7,ag,cg)] ax.o (fun y hy=>by rw[Ly.1 hy];exact av.o) IK a.ch.size).mono ?_;rintro e w8⟨v',rfl,h1,h2,-⟩;have B:=H (a.cn.grown h2 (fun k e=>by cases e));have E:=H (a.ch.grown h2 (fun k e=>by cases e));have F:=H (show aL w8 w.heap.size v' [b.x7]from⟨_,Z,h1⟩);clear h1 h2;go_wp2;go_ret;exact⟨_,Z,by rw[i.o];exact F.o,by rw[i.o];exact B.o,E.o⟩
  have HD:=H hd;have c0:c.dl.due now=false:=by simpa using hd
  clear hd;replace i:=H (i.trans (by rw[L7 HD.o]));have S:=H (show([]:List Sg).length<=1 by simp);generalize bn:c=d at *;clear bn;generalize hL:([]:List Sg)=L at a S i;clear hL;have I:=a.cn.cell 18 d.pend Z;by_cases A:d.pend=1
  ·have J:=H A;rw[A]at I;clear A;have V:=a.cn.cell 19 d.t8.set Z;have X:=a.cn.cell 20 d.t8.since Z;have a0:=a.cn.cell 21 d.t8.ticks Z;go_wp2_with fail;refine(jk d.t8 now _ G.o t.t8.1 t.t8.2).mono ?_;rintro e w2⟨rfl,n⟩;replace a:=H (a.qn n);clear n;clear V X a0;by_cases s:d.t8.due now=true
   ·have u:=H s;have M:=s;clear s;go_wp2_with fail;clear M I;refine(cK f d _ a.cn).mono ?_;rintro e z⟨rfl,l,g⟩;replace a:=H (a.call l g);clear l g;go_wp2_with fail;refine(au f d.i2 now _ a.cn t.i2 G.o).mono ?_;rintro e z⟨v2,rfl,m,l,g⟩;replace a:=H (a.call l g);have K:=H m;clear m l g;go_wp2_with fail;refine(gJ _ w.heap.size _ _ _ L _ a.own K.o (by have:=gK t.i2 now;have:=S.o;omega) a.ch.size).mono ?_;rintro e wz⟨v',rfl,h1,h2⟩;have B:=H (a.cn.grown h2 (fun k e=>⟨aL.ty a.own k e,La x (aL.lo a.own k e)⟩));have E:=H (a.ch.grown h2 (fun k e=>aL.lo a.own k e));have F:=H h1;clear h1 h2;go_wp2;go_ret;exact⟨_,Z,by rw[i.o,Cn.z6,L9 ⟨J.o,u.o⟩];exact F.o,by rw[i.o,Cn.z6,L9 ⟨J.o,u.o⟩];exact B.o,E.o⟩
   have M:d.t8.due now=false:=Ph
   have u:=H M;clear s;go_wp2_with fail;refine(au f d now _ a.cn t.o G.o).mono ?_;rintro e z⟨v2,rfl,m,l,g⟩;replace a:=H (a.call l g);have K:=H m;clear m l g;go_wp2_with fail;refine(gJ _ w.heap.size _ _ _ L _ a.own K.o (by have:=gK t.o now;have:=S.o;omega) a.ch.size).mono ?_;rintro e wz⟨v',rfl,h1,h2⟩;have B:=H (a.cn.grown h2 (fun k e=>⟨aL.ty a.own k e,La x (aL.lo a.own k e)⟩));have E:=H (a.ch.grown h2 (fun k e=>aL.lo a.own k e));have F:=H h1;clear h1 h2;go_wp2;go_ret;exact⟨_,Z,PQ,PR,E.o⟩
  have J:=H A;have c2:(d.pend==1)=false:=Ln.2 A;clear A;go_wp2_with fail;refine(au f d now _ a.cn t.o G.o).mono ?_;rintro e z⟨v2,rfl,m,l,g⟩;replace a:=H (a.call l g);have K:=H m;clear m l g;go_wp2_with fail;refine(gJ _ w.heap.size _ _ _ L _ a.own K.o (by have:=gK t.o now;have:=S.o;omega) a.ch.size).mono ?_;rintro e wz⟨v',rfl,h1,h2⟩;have B:=H (a.cn.grown h2 (fun k e=>⟨aL.ty a.own k e,La x (aL.lo a.own k e)⟩));have E:=H (a.ch.grown h2 (fun k e=>aL.lo a.own k e));have F:=H h1;clear h1 h2;go_wp2;go_ret;exact⟨_,Z,by rw[i.o,Cn.z6,L7 (fun h=>J.o h.1)];exact F.o,by rw[i.o,Cn.z6,L7 (fun h=>J.o h.1)];exact B.o,E.o⟩
end
end Go.Proofs.YtcmncipikdpnbaaGreatDoor
