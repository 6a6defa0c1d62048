import Derived.Test.YtcmncipikdpnbaaGreatDoorUb23
namespace Go.Proofs.YtcmncipikdpnbaaGreatDoor
section
def Sc.free (s:Sc):Int:=s.next-s.fM-aD s.sk-aD s.ag
theorem Sc.Ok.free_eq {s:Sc}(h:s.Ok):s.free=fO (fun i=>((s.fM<=i/\i<s.next)/\¬ap i s.sk)/\¬ap i s.ag) s.next.toNat:=by
 have o:=h.nat;have m:=h.u0;have l:=h.un;have t:=mI (a:=s.fM) (b:=s.next) m l s.next.toNat;have u:=dP h.DX (n:=s.next.toNat) (fun i hi=>by have:=h.FY i hi;omega);have w:=dP h.Fs (n:=s.next.toNat) (fun i hi=>by have:=h.mag i hi;omega)
 have x:fO (fun i=>s.fM<=i/\i<s.next) s.next.toNat=fO (fun i=>ap i s.sk) s.next.toNat+fO (fun i=>(s.fM<=i/\i<s.next)/\¬ap i s.sk) s.next.toNat:=gn (fun i=>by
  constructor
  ·intro k;by_cases g:ap i s.sk
   ·exact .inl g
   exact .inr ⟨k,g⟩
  rintro (k | k)
  ·exact h.FY i k
  exact k.1) (fun i a b=>b.2 a)
 have y:fO (fun i=>(s.fM<=i/\i<s.next)/\¬ap i s.sk) s.next.toNat=fO (fun i=>ap i s.ag) s.next.toNat+fO (fun i=>((s.fM<=i/\i<s.next)/\¬ap i s.sk)/\¬ap i s.ag) s.next.toNat:=gn (fun i=>by
  constructor
  ·intro k;by_cases g:ap i s.ag
   ·exact .inl g
   exact .inr ⟨k,g⟩
  rintro (k | k)
  ·have:=h.mag i k;exact⟨⟨this.1,this.2.1⟩,this.2.2⟩
  exact k.1) (fun i a b=>b.2 a)
 unfold Sc.free;omega
theorem Sc.Ok.Ff {s:Sc}(h:s.Ok):0<=s.free:=by rw[h.free_eq];exact jL _ _
theorem Sc.Ok.EV {s:Sc}(h:s.Ok)(fM:Int)(l:List Sp):(s.go fM l).free<=s.free/\(s.go fM l).next=s.next:=by
 unfold Sc.go;split
 ·rename_i b;have o:=(h.E3 b).2;have t:=(h.F0 b).2;have u:=h.qE b;refine⟨?_,Z⟩;rw[u.free_eq,h.free_eq];refine xY fun i hi=> ?_;obtain⟨⟨⟨h1,h2⟩,g⟩,n⟩:=hi;have a:max s.fM fM<=i:=h1;rw[t]at n;refine⟨⟨⟨O,h2⟩,fun m=>g ((o i).2 ⟨a,.inl m⟩)⟩,fun m=>n ⟨⟨a,m⟩,g⟩⟩
 exact⟨L9 _,Z⟩
theorem Sc.Fv {s:Sc}{t:Int}(h1:s.next<=t)(h2:t<=1099511627776):(s.sent t).free=s.free+(t-s.next)/\(s.sent t).next=t:=by
 have e:s.sent t={ s with next:=t }:=by
  unfold Sc.sent Sc.BV;rw[L7 (Lc ⟨h1,h2⟩)]
 rw[e];unfold Sc.free;exact⟨II,Z⟩
theorem Sc.EI (s:Sc):s.timeout.free=s.next-s.fM:=by
 unfold Sc.timeout Sc.free
 simp[aD]
theorem yg {c:Cn}(ok:c.Ok){x:Sp}{t:List Sp}(hl:c.sc.lost c.gi=x::t):(c.sc.ret (aK c.gi x)).free+1<=c.sc.free/\(c.sc.ret (aK c.gi x)).next=c.sc.next/\c.sc.DY (aK c.gi x)=0:=by
 have w:=ok.gi;have a:x∈c.sc.lost c.gi:=by rw[hl];simp
 obtain⟨g,-,-,-⟩:=dz ok.sc (m:=c.gi) O a;unfold ib at g;have h:(aK c.gi x).2=min x.2 (x.1+c.gi):=Z;have i:(aK c.gi x).1=x.1:=Z;obtain⟨b,-,l⟩:=mL ok.sc (m:=c.gi) O a (x:=aK c.gi x) Z O O;rw[gp _ O,gp _ O,np (s:=c.sc) (t:=c.sc.BR (aK c.gi x)) Z Z Z Z c.gi,show(c.sc.BR (aK c.gi x)).gaps=c.sc.gaps from Z]at l;have e:c.sc.ret (aK c.gi x)=c.sc.BR (aK c.gi x):=by unfold Sc.ret;rw[L7 b]
 rw[e];refine⟨?_,Z,by unfold Sc.DY;rw[L7 b]⟩;have n:(c.sc.BR (aK c.gi x)).next=c.sc.next:=Z;have o:(c.sc.BR (aK c.gi x)).fM=c.sc.fM:=Z;have u:(c.sc.BR (aK c.gi x)).sk=c.sc.sk:=Z;unfold Sc.free;rw[n,o,u];omega
def Cn.xJ (c:Cn):Int:=2*(c.last+1-c.next)+c.sc.free
structure Em (c d:Cn)(k j:Int):Prop where
 last:d.last=c.last
 nl:c.next<=c.last+1->d.next<=d.last+1
 xJ:k+d.xJ<=c.xJ+j
namespace Em
variable {c d e : Cn} {k j k' j' : Int}
theorem refl (c:Cn):Em c c 0 0:=⟨Z,id,O⟩
theorem trans (h:Em c d k j)(g:Em d e k' j'):Em c e (k+k') (j+j'):=⟨g.last.trans h.last,fun x=>g.nl (h.nl x),by have:=h.xJ;have:=g.xJ;omega⟩
theorem D3 (h:Em c d 0 0)(g:Em d e 0 0):Em c e 0 0:=⟨g.last.trans h.last,fun x=>g.nl (h.nl x),by have:=h.xJ;have:=g.xJ;omega⟩
theorem mono (h:Em c d k j)(a:k'<=k)(b:j<=j'):Em c d k' j':=⟨h.last,h.nl,by have:=h.xJ;omega⟩
theorem same (c d:Cn)(h1:d.sc=c.sc)(h2:d.held=c.held)(g:d.base=c.base):Em c d 0 0:=by
 have a:d.last=c.last:=by unfold Cn.last;rw[h2,g]
 have b:d.next=c.next:=by unfold Cn.next;rw[h1]
 exact⟨a,fun h=>by rw[a,b];exact h,by unfold Cn.xJ;rw[a,b,h1];omega⟩
end Em
theorem Cn.CO (c:Cn)(now e:Int):Em c (c.step now e) 0 0:=by
 unfold Cn.step;split
 ·exact .refl c
 split <;> exact .same _ _ Z Z Z
theorem Cn.Gd (c:Cn)(b:Bool):Em c (c.qG b) 0 0:=by unfold Cn.qG;split <;> exact .same _ _ Z Z Z
theorem Cn.Fg (c:Cn):Em c c.v6 0 0:=by unfold Cn.v6;split <;> exact .same _ _ Z Z Z
theorem oQ {c:Cn}(ok:c.Ok){n:Int}(h0:0<=n)(m:n<=c.last-c.next)(h1:1<=n\/(c.shut=true/\c.next=c.last)):Em c (c.nY n) 1 0:=by
 have o:=ok.b1
 have h:c.next+1<=c.kn n/\c.kn n<=c.last+1:=by
  unfold Cn.kn;split
  ·omega
  rename_i a
  rcases h1 with h1 | ⟨h1,h2⟩
  ·omega
  exact absurd ⟨h1,O⟩ a
 obtain⟨i,f2⟩:=Sc.Fv (s:=c.sc) (t:=c.kn n) (show c.next<=_ by omega) O;have b:(c.nY n).last=c.last:=by unfold Cn.nY Cn.qn Cn.qG;rfl
 have g:(c.nY n).next=c.kn n:=f2;have hs:(c.nY n).sc=c.sc.sent (c.kn n):=Z;have l:c.sc.next=c.next:=Z;exact⟨b,fun _=>by rw[b,g];exact h.2,by unfold Cn.xJ;rw[b,g,hs,i,l];omega⟩
theorem yh {c:Cn}(ok:c.Ok)(now:Int){n:Int}(h0:0<=n)(a:n<=c.last-c.next)(h1:1<=n\/(c.shut=true/\c.next=c.last)):Em c (c.out now n) 1 0:=by
 have:=(oQ ok h0 a h1).trans (.same (c.nY n) (c.out now n) Z Z Z);exact this.mono O O
theorem yi (n:Nat):∀{c:Cn} (_:c.Ok) (l:List Sg),Em c (n7 n c l).1 (((n7 n c l).2.length:Int)-l.length) 0:=by
 induction n with
 | zero=>intro c _ l;exact(Em.refl c).mono (by simp[n7]) O
 | succ n m =>
  intro c ok l;by_cases b:c.sc.pipe c.gi<c.cg.win
  ·cases hl:c.sc.lost c.gi with
   | nil =>
    rw[n7,L7 b,hl];exact(Em.refl c).mono FE O
   | cons x t =>
    obtain⟨o,f2,f3⟩:=yg ok hl;rw[n7,L7 b,hl];dsimp only;rw[L7 f3];have g:Cn.Ok { c.qn with sc:=c.sc.ret (aK c.gi x),tm:=c.tm.og }:=(ok.qn.D7 (ok.sc.ret _)).Dk (Tm.tv ok.tm);have h1:=m g (l++[c.kZ x.1 (aK c.gi x).2])
    have h0:Em c { c.qn with sc:=c.sc.ret (aK c.gi x),tm:=c.tm.og } 1 0:=by
     have i:Cn.last { c.qn with sc:=c.sc.ret (aK c.gi x),tm:=c.tm.og }=c.last:=Z;have a:Cn.next { c.qn with sc:=c.sc.ret (aK c.gi x),tm:=c.tm.og }=c.next:=f2;exact⟨i,fun h=>by rw[i,a];exact h,by unfold Cn.xJ;rw[i,a];show _+(_+(c.sc.ret (aK c.gi x)).free)<=_;omega⟩
    exact(h0.trans h1).mono Jb O
  rw[n7,L5 b];exact(Em.refl c).mono FE O
theorem su {c:Cn}(_ok:c.Ok)(h:0<c.allowed):c.allowed<=c.last-c.next:=by
 have a:c.allowed<=c.iq\/c.allowed<=0:=by
  unfold Cn.allowed;split
  ·omega
  split
  ·omega
  split <;> omega
 have b:c.iq=max 0 (c.last-c.next):=Z;omega
theorem yj {now:Int}(a:aI now)(n:Nat):∀{c:Cn} (_:c.Ok) (l:List Sg),Em c (kr now n c l).1 (((kr now n c l).2.length:Int)-l.length) 0:=by
 induction n with
 | zero=>intro c _ l;exact(Em.refl c).mono (by simp[kr]) O
 | succ n b =>
  intro c ok l;rw[kr];split
  ·rename_i h;have h1:=b (ok.out a c.allowed) (l++[c.kl c.allowed]);have h0:=yh ok now (n:=c.allowed) O (su ok h) (.inl O);exact(h0.trans h1).mono Jb O
  exact(Em.refl c).mono FE O
theorem Ai {now:Int}{c:Cn}(ok:c.Ok)(l:List Sg):Em c (ug now c l).1 (((ug now c l).2.length:Int)-l.length) 0:=by
 unfold ug;split
 ·rename_i h;exact(yh ok now (n:=0) O O (.inr h)).mono Jb O
 exact(Em.refl c).mono FE O
theorem yk {c:Cn}(ok:c.Ok){now:Int}(h:aI now):Em c (c.o6 now).1 (c.o6 now).2.length 0:=by
 unfold Cn.o6;dsimp only;have h1:=yi (c.flight.toNat+1) ok [];have g:=Cn.Ok.n7 (c.flight.toNat+1) ok [];generalize n7 (c.flight.toNat+1) c []=a at h1 g|-;have h2:=yj h (a.1.iq.toNat+1) g a.2;have i:=Cn.Ok.kr h (a.1.iq.toNat+1) g a.2;generalize kr now (a.1.iq.toNat+1) a.1 a.2=b at h2 i|-;have l:=Ai (now:=now) i b.2;exact((h1.trans h2).trans l).mono (by rw[M1];omega) O
theorem yl (c:Cn)(l:List Sg):Em c (c.qD l).1 (((c.qD l).2.length:Int)-l.length) (if c.pend=2 then 1 else 0):=by
 unfold Cn.qD;by_cases h:c.pend=2
 ·rw[L7 h,L7 h];have h:=c.Gd false;exact⟨h.last,h.nl,by have:=h.xJ;dsimp only;rw[La,Mo];omega⟩
 rw[L5 h,L5 h];exact(Em.refl c).mono FE O
theorem ym (c:Cn)(now:Int):Em c (c.lp now) 0 0:=by
 unfold Cn.lp;split
 ·exact .same _ _ Z Z Z
 split
 ·exact .refl c
 exact .same _ _ Z Z Z
theorem dD {c:Cn}(ok:c.Ok){now:Int}(g:aI now):Em c (c.push now).1 (c.push now).2.length 1:=by
 unfold Cn.push;split
 ·exact(Em.refl c).mono FE O
 dsimp only
 have b:∀a:Cn×List Sg,Em c a.1 a.2.length 0->Em c ((a.1.qD a.2).1.lp now) (a.1.qD a.2).2.length 1:=by
  intro a h;have h2:=yl a.1 a.2;exact((h.trans h2).trans (ym _ now)).mono O Jv
 split
 ·exact b _ (yk ok g)
 exact b (c,[]) ((Em.refl c).mono FE O)
theorem wG (c:Cn)(u:Int):(c.drop u).last=c.last:=by
 have:0<=dL c.held c.base u/\dL c.held c.base u<=c.held.length:=by unfold dL;omega
 unfold Cn.drop Cn.last;dsimp only;rw[Lq];omega
theorem uM (c:Cn)(u:Int):Em c (c.drop u) 0 0:=by
 have a:=wG c u;have b:(c.drop u).next=c.next:=Z;have hs:(c.drop u).sc=c.sc:=Z;exact⟨a,fun h=>by rw[a,b];exact h,by unfold Cn.xJ;rw[a,b,hs];omega⟩
theorem wH {c:Cn}(ok:c.Ok)(a:Int)(bl:List Sp):Em c (c.report a bl) 0 0:=by
 obtain⟨h1,h2⟩:=ok.sc.EV a (dV c.iu c.next c.cf.kc bl);have b:(c.report a bl).last=c.last:=Z;have g:(c.report a bl).next=c.next:=h2;exact⟨b,fun h=>by rw[b,g];exact h,by unfold Cn.xJ;rw[b,g];show _+(_+(c.sc.go a _).free)<=_;omega⟩
theorem rJ {c:Cn}(ok:c.Ok)(now:Int)(s:Sg)(ack:Int):Em c (c.go now s ack) 0 0:=by
 unfold Cn.go;split
 ·exact .same _ _ Z Z Z
 dsimp only;have h0:Em c (({ c with tries:=0 }:Cn).report ack s.bl) 0 0:=((Em.same c ({ c with tries:=0 }:Cn) Z Z Z).D3 (wH ok.D9 ack s.bl));generalize ({ c with tries:=0 }:Cn).report ack s.bl=r at h0
 have h1:Em c (if c.fM<ack then(if 0<ack-max c.fM 1 then({ r with dl:=eG,tm:=r.tm.go now ack,cg:=r.cg.go (ack-max c.fM 1) ack }:Cn)else { r with dl:=eG,tm:=r.tm.go now ack }).drop ack else r) 0 0:=by
  split
  ·split
   ·exact((h0.D3 (.same r ({ r with dl:=eG,tm:=r.tm.go now ack,cg:=r.cg.go (ack-max c.fM 1) ack }:Cn) Z Z Z)).D3 (uM _ _))
   exact((h0.D3 (.same r ({ r with dl:=eG,tm:=r.tm.go now ack }:Cn) Z Z Z)).D3 (uM _ _))
  exact h0
 generalize (if c.fM<ack then(if 0<ack-max c.fM 1 then({ r with dl:=eG,tm:=r.tm.go now ack,cg:=r.cg.go (ack-max c.fM 1) ack }:Cn)else { r with dl:=eG,tm:=r.tm.go now ack }).drop ack else r)=a at h1
 have h2:Em c (if 0<c.Ct ack s.bl/\(a.announce ack s.win).mark<=ack/\(a.announce ack s.win).sc.lost (a.announce ack s.win).gi≠[]then { a.announce ack s.win with cg:=(a.announce ack s.win).cg.lost c.flight (a.announce ack s.win).next }else a.announce ack s.win) 0 0:=by
  split <;> exact(h1.D3 (.same _ _ Z Z Z))
 generalize (if 0<c.Ct ack s.bl/\(a.announce ack s.win).mark<=ack/\(a.announce ack s.win).sc.lost (a.announce ack s.win).gi≠[]then { a.announce ack s.win with cg:=(a.announce ack s.win).cg.lost c.flight (a.announce ack s.win).next }else a.announce ack s.win)=d at h2;split
 ·exact(h2.D3 (d.CO now 7))
 exact h2
theorem yn (c:Cn)(now:Int)(s:Sg)(off:Int):Em c (c.store now s off) 0 0:=by
 unfold Cn.store;split
 ·exact .refl c
 split
 ·split
  ·unfold Cn.rl;split <;> exact .same _ _ Z Z Z
  exact .same _ _ Z Z Z
 exact .same _ _ Z Z Z
theorem Aj (c:Cn)(now:Int)(s:Sg)(off:Int):Em c (c.qb now s off) 0 0:=by
 unfold Cn.qb;dsimp only;have h1:Em c (if s.fin=true/\aV c.st=true/\c.ended=false/\c.bx.nx<=off+s.s.length then { c with ended:=true,ox:=off+s.s.length }else c) 0 0:=by split <;> exact .same _ _ Z Z Z
 generalize (if s.fin=true/\aV c.st=true/\c.ended=false/\c.bx.nx<=off+s.s.length then { c with ended:=true,ox:=off+s.s.length }else c)=d at h1;split
 ·have h2:Em d ({ d with over:=true }:Cn) 0 0:=.same _ _ Z Z Z;exact(((h1.trans h2).D3 (Cn.CO { d with over:=true } now 6)).D3 (.same _ _ Z Z Z))
 exact h1
end
theorem Em.one (c:Cn):Em c c 1 1:=⟨Z,id,O⟩
theorem gQ (c:Cn)(now e a:Int):Em c (c.finish now e a) 0 0:=(Cn.CO c now e).D3 (.same _ _ Z Z Z)
theorem fA (c:Cn):Em c c.gB 0 0:=.same _ _ Z Z Z
theorem pb {c:Cn}(ok:c.Ok)(now:Int)(s:Sg)(off ack:Int):Em c (((c.go now s ack).store now s off).qb now s off) 0 0 :=
 (((rJ ok now s ack).trans (yn _ now s off)).trans (Aj _ now s off)).mono O O
theorem sy {c:Cn}(ok:c.Ok){now:Int}(a:aI now){s:Sg}(hs:s.Ok){off:Int}(ho: -2147483648<=off/\off<=2147483647):Em c (c.process now s off).1 (c.process now s off).2.length 1:=by
 have b:=bP s.ak c.cf.kc;unfold Cn.process;dsimp only;split
 ·rename_i h2;have h:=ok.tr2 O;split
  ·exact Em.one c
  have g:=ok.step a h 4;have i:=Cn.CO c now 4;split
  ·have l:=g.step a (by rw[Cn.A4];exact h) 5;exact(((i.trans (Cn.CO _ now 5)).trans (pb l now s off _)).trans (dD (l.tail a hs ho b.2) a)).mono O O
  exact((i.trans (pb g now s off _)).trans (dD (g.tail a hs ho b.2) a)).mono O O
 split
 ·exact((fA c).trans (dD ok.gB a)).mono O O
 exact((pb ok now s off _).trans (dD (ok.tail a hs ho b.2) a)).mono O O
theorem yo {c:Cn}(ok:c.Ok){now:Int}(g:aI now){s:Sg}(hs:s.Ok):Em c (c.stray now s).1 (c.stray now s).2.length 1:=by
 have l:=bP s.ak c.cf.kc;unfold Cn.stray;dsimp only
 have h1:Cn.Ok (if bU c.st=true/\s.has=true/\s.syn=false/\c.fM<=aE s.ak c.cf.kc/\aE s.ak c.cf.kc<=c.next then c.go now s (aE s.ak c.cf.kc)else c):=by
  split
  ·exact(ok.go g hs O).1
  exact ok
 have h:Em c (if bU c.st=true/\s.has=true/\s.syn=false/\c.fM<=aE s.ak c.cf.kc/\aE s.ak c.cf.kc<=c.next then c.go now s (aE s.ak c.cf.kc)else c) 0 0:=by
  split
  ·exact rJ ok now s _
  exact .refl c
 generalize (if bU c.st=true/\s.has=true/\s.syn=false/\c.fM<=aE s.ak c.cf.kc/\aE s.ak c.cf.kc<=c.next then c.go now s (aE s.ak c.cf.kc)else c)=a at h1 h|-
 have h2:Cn.Ok (if a.st=9/\s.fin=true then { a with per:=.wA now 60 }else a):=by
  split
  ·exact { h1 with per:=Al.zv g D D }
  exact h1
 have i:Em a (if a.st=9/\s.fin=true then { a with per:=.wA now 60 }else a) 0 0:=by
  split
  ·exact .same _ _ Z Z Z
  exact .refl a
 generalize (if a.st=9/\s.fin=true then { a with per:=.wA now 60 }else a)=b at h2 i|-;split
 ·exact(((h.trans i).trans (fA b)).trans (dD h2.gB g)).mono O O
 exact((h.trans i).trans (dD h2 g)).mono O O
theorem yp {c:Cn}(ok:c.Ok){now:Int}(i:aI now){s:Sg}(hs:s.Ok):Em c (c.xs now s).1 (c.xs now s).2.length 1:=by
 unfold Cn.xs;split
 ·split
  ·exact(Em.refl c).mono FE O
  exact Em.one c
 split
 ·exact(gQ c now 8 184).mono FE O
 split
 ·exact(Em.refl c).mono FE O
 rename_i hy;have hy:s.syn=true:=Jm
 have a:=(ok.meet hs hy).D9;have b:Em c ({ c.meet s with tries:=0 }:Cn) 0 0:=.same _ _ Z Z Z;have l:({ c.meet s with tries:=0 }:Cn).tries<=12:=J0
 generalize ({ c.meet s with tries:=0 }:Cn)=d at a b l;dsimp only;split
 ·have h:=((b.trans (Cn.CO d now 2)).trans (Cn.Fg _));exact⟨h.last,h.nl,by have:=h.xJ;simp;omega⟩
 have m:Cn.Ok { d with sc:=d.sc.go 1 [],tm:=d.tm.go now 1 }:=(a.D7 (a.sc.go 1 [])).Dk (Tm.v8 a.tm now 1)
 have n:Em d { d with sc:=d.sc.go 1 [],tm:=d.tm.go now 1 } 0 0:=by
  obtain⟨h1,h2⟩:=a.sc.EV 1 [];have g:Cn.last { d with sc:=d.sc.go 1 [],tm:=d.tm.go now 1 }=d.last:=Z;have o:Cn.next { d with sc:=d.sc.go 1 [],tm:=d.tm.go now 1 }=d.next:=h2;exact⟨g,fun h=>by rw[g,o];exact h,by unfold Cn.xJ;rw[g,o];show _+(_+(d.sc.go 1 []).free)<=_;omega⟩
 have t:Cn.tries { d with sc:=d.sc.go 1 [],tm:=d.tm.go now 1 }<=12:=l;generalize ({ d with sc:=d.sc.go 1 [],tm:=d.tm.go now 1 }:Cn)=e at m n t;have u:=(m.step i t 3).Eo eD;have w:Em (e.step now 3) ({ e.step now 3 with dl:=eG }:Cn) 0 0:=.same _ _ Z Z Z;exact(((((b.trans n).trans (Cn.CO e now 3)).trans w).trans (fA _)).trans (dD u.gB i)).mono O O
theorem wI {c:Cn}(ok:c.Ok){now:Int}(a:aI now){s:Sg}(hs:s.Ok):Em c (c.ys now s).1 (c.ys now s).2.length 1:=by
 have b:=bP s.sq (aw c.tq 1);unfold Cn.ys;dsimp only;split
 ·exact(gQ c now 8 181).mono FE O
 split
 ·exact(Em.refl c).mono FE O
 split
 ·exact yo ok a hs
 split
 ·exact((fA c).trans (dD ok.gB a)).mono O O
 split
 ·exact(Em.refl c).mono FE O
 exact sy ok a hs b
theorem sz {c:Cn}(ok:c.Ok){now:Int}(a:aI now){s:Sg}(hs:s.Ok):Em c (c.receive now s).1 (c.receive now s).2.length 1:=by
 unfold Cn.receive;split
 ·exact(Em.refl c).mono FE O
 split
 ·exact(Em.refl c).mono FE O
 split
 ·exact yp ok a hs
 exact wI ok a hs
theorem rK {c:Cn}(ok:c.Ok)(g:Cg)(m:Int):Em c { c with cg:=g,sc:=c.sc.timeout,mark:=m } 0 c.flight:=by
 have h0:=ok.sc.Ff;have a:Cn.last { c with cg:=g,sc:=c.sc.timeout,mark:=m }=c.last:=Z;have b:Cn.next { c with cg:=g,sc:=c.sc.timeout,mark:=m }=c.next:=Z;have l:=Sc.EI c.sc;have i:c.flight=c.sc.next-c.sc.fM:=Z;exact⟨a,fun h=>by rw[a,b];exact h,by unfold Cn.xJ;rw[a,b];show _+(_+c.sc.timeout.free)<=_;omega⟩
theorem wJ {c:Cn}(ok:c.Ok):Em c c.expire.1 c.expire.2.length c.flight:=by
 have b:=ok.fM;have g:c.flight=c.next-c.fM:=Z;have a:c.iq=max 0 (c.last-c.next):=Z;unfold Cn.expire;split
 ·exact(rK ok _ _).mono FE O
 split
 ·exact(Em.refl c).mono FE O
 exact(oQ ok (n:=max 1 (min (min c.gi (c.limit-c.next)) c.iq)) O O (.inl O)).mono FE O
theorem mq {c:Cn}(ok:c.Ok){now:Int}(g:aI now)(l:List Sg):Em c (c.oi now l).1 (((c.oi now l).2.length:Int)-l.length) 1:=by
 unfold Cn.oi;dsimp only;have b:∀a:Cn,a.Ok->Em c a 0 0->Em c (a.push now).1 (((l++(a.push now).2).length:Int)-l.length) 1:=fun a o e=>(e.trans (dD o g)).mono J7 O;split
 ·exact b _ ok.gB (fA c)
 exact b _ ok (.refl c)
theorem Am {c:Cn}(ok:c.Ok){now:Int}(a:aI now):Em c (c.tick now).1 (c.tick now).2.length (1+c.flight):=by
 have o:=ok.fM;have s:c.flight=c.next-c.fM:=Z;unfold Cn.tick;split
 ·exact(Em.refl c).mono FE O
 rename_i h0;have t:=ok.tr2 h0;have l:=ok.tr;split
 ·exact(gQ c now 9 0).mono FE O
 split
 ·dsimp only;have m:Em c ({ c with tries:=c.tries+1 }:Cn) 0 0:=.same _ _ Z Z Z;split
  ·exact((m.trans (gQ _ now 9 182))).mono FE O
  rename_i n
  have b:0<=c.tm.og.ka.value/\c.tm.og.ka.value<=1000:=by
   have h1:=c.tm.og.ka.CM;have h2:(0:Int)<=c.tm.og.ka.base*2 ^ c.tm.og.ka.backs.toNat:=MS O (Nf D);unfold Tm.value;omega
  have g:Cn.Ok { c with tries:=c.tries+1,tm:=c.tm.og.ka,dl:=.wA now c.tm.og.ka.value } :=
   { ok with tr:=by have:=ok.tr;dsimp only;omega,tr2:=fun _=>by dsimp only;omega,tm:=Tm.zw (Tm.tv ok.tm),dl:=Al.zv a b.1 b.2 }
  have i:Em c ({ c with tries:=c.tries+1,tm:=c.tm.og.ka,dl:=.wA now c.tm.og.ka.value }:Cn) 0 0:=.same _ _ Z Z Z;have u:Cn.flight { c with tries:=c.tries+1,tm:=c.tm.og.ka,dl:=.wA now c.tm.og.ka.value }=c.flight:=Z;split
  ·exact((i.trans (wJ g)).trans (mq g.expire a _)).mono O O
  have h:=i.trans (Cn.Fg _);exact⟨h.last,h.nl,by have:=h.xJ;simp;omega⟩
 exact(mq ok a []).mono FE O
theorem An {c:Cn}(ok:c.Ok){now:Int}(b:aI now)(n:Int):Em c (c.recv now n).1 (c.recv now n).2.length 1:=by
 unfold Cn.recv;split
 ·exact(Em.refl c).mono FE O
 dsimp only;have g:=ok.take n;have a:Em c ({ c with bx:=c.bx.take n }:Cn) 0 0:=.same _ _ Z Z Z;split
 ·exact a.mono FE O
 split
 ·exact a.mono FE O
 exact((a.trans (fA _)).trans (dD g.gB b)).mono O O
theorem yq {c:Cn}(ok:c.Ok){now:Int}(a:aI now):Em c (c.close now).1 (c.close now).2.length 1:=by
 unfold Cn.close;split
 ·exact(Em.refl c).mono FE O
 rename_i h0;dsimp only;have g:Cn.Ok { c with shut:=true }:={ ok with };have b:Em c ({ c with shut:=true }:Cn) 0 0:=.same _ _ Z Z Z;have i:Cn.tries { c with shut:=true }<=12:=ok.tr2 (fun h=>h0 (.inl h));split
 ·exact(b.trans (gQ _ now 5 183)).mono FE O
 split
 ·exact(b.trans (dD g a)).mono O O
 exact((b.trans (Cn.CO _ now 5)).trans (dD (g.step a i 5) a)).mono O O
theorem Ao {c:Cn}(ok:c.Ok){now:Int}(g:aI now)(s:List UInt8)(n:c.last+s.length<=1073741824):(c.send now s).1.last=c.last+(if c.refusal≠0 then 0 else c.nX s)/\(c.next<=c.last+1->(c.send now s).1.next<=(c.send now s).1.last+1)/\(c.send now s).2.length+(c.send now s).1.xJ<=c.xJ+2*s.length+1:=by
 unfold Cn.send;by_cases a:c.refusal≠0
 ·rw[L7 a,L7 a];exact⟨II,id,by dsimp only;rw[M1];omega⟩
 rw[L5 a,L5 a];have h0:0<=c.nX s/\c.nX s<=s.length:=Kd
 have b:Cn.last { c with held:=c.held++s.take (c.nX s).toNat }=c.last+c.nX s:=by
  unfold Cn.last;dsimp only;rw[La,Le];omega
 have i:Cn.next { c with held:=c.held++s.take (c.nX s).toNat }=c.next:=Z;have o:Cn.xJ { c with held:=c.held++s.take (c.nX s).toNat }=c.xJ+2*c.nX s:=by unfold Cn.xJ;rw[b,i];dsimp only;omega
 have l:=b;unfold Cn.last at l;have m:Cn.Ok { c with held:=c.held++s.take (c.nX s).toNat }:={ ok with b1:=Jg};have:=dD m g;exact⟨this.last.trans b,fun h=>this.nl O,by have:=this.xJ;omega⟩
section
structure Dp (s:Sd):Prop where
 c:s.c.Ok
 len:s.all.length<=1000
 s0:0<=s.sent
 sl:s.sent<=s.all.length
 last:s.c.last=1+s.sent
 nl:s.c.next<=s.c.last+1
theorem Dp.xJ {s:Sd}(h:Dp s):0<=s.c.xJ:=by
 have:=h.c.sc.Ff;have:=h.nl;unfold Cn.xJ;omega
theorem Dp.flight {s:Sd}(h:Dp s):s.c.flight<=1002:=by
 have:=h.c.fM;have:=h.nl;have:=h.last;have:=h.sl;have:=h.len;have a:s.c.flight=s.c.next-s.c.fM:=Z;omega
theorem Dp.em {s:Sd}(h:Dp s){d:Cn}(hd:d.Ok){k j:Int}(e:Em s.c d k j):Dp { s with c:=d } :=
 ⟨hd,h.len,h.s0,h.sl,e.last.trans h.last,e.nl h.nl⟩
namespace Pr
def rem (p:Pr):Int:=max 0 ((p.kq.length:Int)-p.many)
def Q (p:Pr):Int:=p.wire.length+p.rem+p.a.c.xJ+p.b.c.xJ
def R (p:Pr):Int:=p.log.length+p.a.c.xJ+p.b.c.xJ
structure Fit (p:Pr)(q r:Int):Prop where
 a:Dp p.a
 b:Dp p.b
 now:0<=p.now/\p.now<=1000000
 wire:∀f∈p.wire,f.s.Ok
 due:∀f∈p.wire,0<=f.due/\f.due<=1000100
 log:∀f∈p.log,f.s.Ok
 q:p.Q<=q
 r:p.R<=r
variable {p : Pr} {q r : Int}
theorem Fit.mono (h:Fit p q r){q' g:Int}(i:q<=q')(hr:r<=g):Fit p q' g:=⟨h.a,h.b,h.now,h.wire,h.due,h.log,Lz h.q i,Lz h.r hr⟩
theorem Fit.sd (h:Fit p q r)(i:Bool):Dp (p.sd i):=by cases i;exact h.a;exact h.b
theorem Fit.zu (h:Fit p q r):aI p.now:=by have:=h.now;unfold aI;omega
theorem Fit.E0 (h:Fit p q r):(p.wire.length:Int)<=q:=by
 have:=h.q;have:=h.a.xJ;have:=h.b.xJ;unfold Q rem at *;omega
theorem Fit.llen (h:Fit p q r):(p.log.length:Int)<=r:=by
 have:=h.r;have:=h.a.xJ;have:=h.b.xJ;unfold R at *;omega
theorem yr (p:Pr)(f:Fl):(p.AA f).length<=1\/((p.AA f).length=2/\p.many<p.kq.length):=by
 by_cases h:p.many<p.kq.length
 ·unfold AA
  (repeat' split) <;> simp[h]
 have e:p.wB=0:=by unfold wB;rw[MZ O]
 unfold AA;rw[L7 e];exact .inl FE
theorem Ap (p:Pr){f:Fl}(h:f.s.Ok):∀g∈p.AA f,g.s.Ok:=by
 intro g a;unfold AA at a
 (repeat' split at a) <;> simp at a <;> rw[a] <;> exact h
theorem Ar (p:Pr):0<=p.wB/\p.wB<24:=by
 unfold wB;split
 ·exact ah _ 24 D
 exact⟨D,D⟩
theorem yt (p:Pr)(b:0<=p.now/\p.now<=1000000){f:Fl}(h:0<=f.due/\f.due<=1000100):∀g∈p.AA f,0<=g.due/\g.due<=1000100:=by
 intro g a;have i:=Ar p;unfold AA at a
 (repeat' split at a) <;> simp at a <;> rw[a]
 ·exact h
 ·exact h
 ·exact h
 dsimp only;omega
theorem yu (h:Fit p q r)(i:Bool){s:Sg}(hs:s.Ok):Fit (p.tt i s) (q+1) (r+1):=by
 refine⟨h.a,h.b,h.now,?_,?_,?_,?_,?_⟩
 ·intro f g
  rcases LE.1 g with g | g
  ·exact h.wire f g
  exact Ap p (show(p.fl i s).s.Ok from hs) f g
 ·intro f g
  rcases LE.1 g with g | g
  ·exact h.due f g
  exact yt p h.now (f:=p.fl i s) (by have:=h.now;unfold fl;dsimp only;omega) f g
 ·intro f g
  rcases LE.1 g with g | g
  ·exact h.log f g
  rw[Lu.1 g];exact hs
 ·have m:=h.q;have l:=yr p (p.fl i s);unfold Q rem tt at *;dsimp only;rw[La]
  rcases l with l | ⟨l,n⟩ <;> omega
 have o:=h.r;unfold R tt at *;dsimp only;rw[La,Mo];omega
theorem Fh (i:Bool):∀(l:List Sg) {p:Pr} {q r:Int},Fit p q r->(∀x∈l,x.Ok)->Fit (p.put i l) (q+l.length) (r+l.length):=by
 intro l
 induction l with
 | nil=>intro p q r h _;exact h.mono FE FE
 | cons s l b =>
  intro p q r h a;have h1:=yu h i (a s FE);exact(b h1 (fun x g=>a x (by simp[g]))).mono IH IH
theorem mr (i:Bool):∀(l:List Sg) (p:Pr),(p.put i l).a=p.a/\(p.put i l).b=p.b/\(p.put i l).now=p.now/\(p.put i l).kq=p.kq:=by
 intro l
 induction l with
 | nil=>intro p;exact⟨Z,Z,Z,Z⟩
 | cons s l g=>intro p;exact g (p.tt i s)
theorem oR (h:Fit p q r)(i:Bool){d:Sd}(hd:Dp d){j:Int}(l:d.c.xJ<=(p.sd i).c.xJ+j):Fit (p.kd i d) (q+j) (r+j):=by
 have m:=h.q;have n:=h.r
 cases i with
 | false =>
  have g:d.c.xJ<=p.a.c.xJ+j:=l;refine⟨hd,h.b,h.now,h.wire,h.due,h.log,?_,?_⟩
  ·unfold Q rem kd at *;dsimp only;omega
  unfold R kd at *;dsimp only;omega
 | true =>
  have g:d.c.xJ<=p.b.c.xJ+j:=l;refine⟨h.a,hd,h.now,h.wire,h.due,h.log,?_,?_⟩
  ·unfold Q rem kd at *;dsimp only;omega
  unfold R kd at *;dsimp only;omega
theorem kD (h:Fit p q r)(i:Bool){d:Sd}{l:List Sg}(hd:Dp d)(hl:∀x∈l,x.Ok){j:Int}(a:l.length+d.c.xJ<=(p.sd i).c.xJ+j):Fit ((p.kd i d).put i l) (q+j) (r+j) :=
 (Fh i l (oR h i hd (j:=j-l.length) O) hl).mono O O
theorem Ce (h:Fit p q r){f:Fl}(hf:f.s.Ok):Fit (p.ke f) (q+1) (r+1):=by
 have hs:=h.sd f.dst;have e:=sz hs.c h.zu hf;exact kD h f.dst (hs.em (hs.c.receive h.zu hf) e) (hs.c.F5 h.zu hf) e.xJ
theorem EW:∀(l:List Fl) {p:Pr} {q r:Int},Fit p q r->(∀f∈l,f.s.Ok)->Fit (l.foldl ke p) (q+l.length) (r+l.length):=by
 intro l
 induction l with
 | nil=>intro p q r h _;exact h.mono FE FE
 | cons f l b =>
  intro p q r h a;exact(b (Ce h (a f FE)) (fun x g=>a x (by simp[g]))).mono IH IH
theorem kE {α:Type}(P:α->Bool):∀l:List α,(l.filter P).length+(l.filter fun x=> !P x).length=l.length:=by
 intro l
 induction l with
 | nil=>rfl
 | cons x l a=>by_cases h:P x=true <;> simp[h] <;> omega
theorem uN (p:Pr):p.due.length+p.rest.length=p.wire.length:=by
 have h1:=kE (tD p.now) p.wire;have h2:=kE (v7 p.now (El p.now p.wire)) (Dm p.now p.wire);unfold due rest;rw[La];have a:(El p.now p.wire).length=(p.wire.filter (tD p.now)).length:=Z;have b:(Dm p.now p.wire).length=(p.wire.filter fun x=> !tD p.now x).length:=Z;omega
theorem Dy {p:Pr}{f:Fl}(h:f∈p.due):f∈p.wire:=by
 unfold due El Dm at h
 rcases LE.1 h with h | h
 ·exact(LZ.1 h).1
 exact(LZ.1 (LZ.1 h).1).1
theorem Ec {p:Pr}{f:Fl}(h:f∈p.rest):f∈p.wire:=by
 unfold rest Dm at h;exact(LZ.1 (LZ.1 h).1).1
theorem Ed (h:Fit p q r):Fit { p with wire:=p.rest } (q-p.due.length) r :=
 ⟨h.a,h.b,h.now,fun f g=>h.wire f (Ec g),fun f g=>h.due f (Ec g),h.log,by have:=h.q;have:=uN p;unfold Q rem at *;dsimp only;omega,h.r⟩
theorem Df (h:Fit p q r):Fit p.deliver q (r+q):=by
 have h1:=EW p.due (Ed h) (fun f a=>h.wire f (Dy a));have h2:=h.E0;have b:=uN p;exact h1.mono O O
theorem vw (h:Fit p q r)(i:Bool):Fit (p.ki i) (q+1003) (r+1003):=by
 have hs:=h.sd i;have e:=Am hs.c h.zu;have a:=hs.flight;exact kD h i (hs.em (hs.c.tick h.zu) e) (hs.c.G7 h.zu) (by have:=e.xJ;dsimp only;omega)
theorem Ee:∀(l:List Fl) (p:Pr),(l.foldl ke p).now=p.now/\(l.foldl ke p).kq=p.kq/\(l.foldl ke p).a.all=p.a.all/\(l.foldl ke p).b.all=p.b.all:=by
 intro l
 induction l with
 | nil=>intro p;exact⟨Z,Z,Z,Z⟩
 | cons f l g =>
  intro p;have h:=g (p.ke f);have k:=mr f.dst ((p.sd f.dst).c.receive p.now f.s).2 (p.ro f.dst ((p.sd f.dst).c.receive p.now f.s).1);have e:p.ke f=(p.ro f.dst ((p.sd f.dst).c.receive p.now f.s).1).put f.dst ((p.sd f.dst).c.receive p.now f.s).2:=Z;rw[Nk,h.1,h.2.1,h.2.2.1,h.2.2.2,e,k.1,k.2.1,k.2.2.1,k.2.2.2]
  cases f.dst <;> exact⟨Z,Z,Z,Z⟩
theorem yv (p:Pr):p.tick.now=p.now+1/\p.tick.kq=p.kq/\p.tick.a.all=p.a.all/\p.tick.b.all=p.b.all:=by
 have h:=Ee ({ p with now:=p.now+1 }:Pr).due { ({ p with now:=p.now+1 }:Pr)with wire:=({ p with now:=p.now+1 }:Pr).rest }
 have g:∀(x:Pr) (i:Bool),(x.ki i).now=x.now/\(x.ki i).kq=x.kq/\(x.ki i).a.all=x.a.all/\(x.ki i).b.all=x.b.all:=by
  intro x i;have k:=mr i ((x.sd i).c.tick x.now).2 (x.ro i ((x.sd i).c.tick x.now).1);have e:x.ki i=(x.ro i ((x.sd i).c.tick x.now).1).put i ((x.sd i).c.tick x.now).2:=Z;rw[e,k.1,k.2.1,k.2.2.1,k.2.2.2]
  cases i <;> exact⟨Z,Z,Z,Z⟩
 have l:=g ({ p with now:=p.now+1 }:Pr).deliver false;have m:=g (({ p with now:=p.now+1 }:Pr).deliver.ki false) true;have e:p.tick=(({ p with now:=p.now+1 }:Pr).deliver.ki false).ki true:=Z;have d:({ p with now:=p.now+1 }:Pr).deliver=({ p with now:=p.now+1 }:Pr).due.foldl ke { ({ p with now:=p.now+1 }:Pr)with wire:=({ p with now:=p.now+1 }:Pr).rest }:=Z;rw[e,m.1,m.2.1,m.2.2.1,m.2.2.2,l.1,l.2.1,l.2.2.1,l.2.2.2,d,h.1,h.2.1,h.2.2.1,h.2.2.2];exact⟨Z,Z,Z,Z⟩
theorem yw (h:Fit p q r)(g:p.now+1<=1000000):Fit p.tick (q+2010) (r+q+2010):=by
 have h0:Fit { p with now:=p.now+1 } q r:=⟨h.a,h.b,⟨by have:=h.now;dsimp only;omega,g⟩,h.wire,h.due,h.log,h.q,h.r⟩;exact(vw (vw (Df h0) false) true).mono O O
theorem Ch {s:Sd}(h:Dp s)(n:Int):((bytes s n).length:Int)<=s.all.length-s.sent:=by
 have:=h.s0;have:=h.sl;unfold bytes;rw[Lq,Le];omega
theorem Dz (h:Fit p q r)(i:Bool)(n:Int):Fit (p.send i n) (q+2010) (r+2010):=by
 have hs:=h.sd i;unfold send;dsimp only;split
 ·exact h.mono O O
 split
 ·exact h.mono O O
 rename_i a;have a:¬(p.sd i).c.refusal≠0:=a;have o:=Ch hs n;have b:=hs.len;have g:=hs.sl;have s:=hs.last;have h0:=hs.s0;obtain⟨l,m,t⟩:=Ao hs.c h.zu (bytes (p.sd i) n) O;rw[L5 a]at l;have u:0<=(p.sd i).c.nX (bytes (p.sd i) n)/\(p.sd i).c.nX (bytes (p.sd i) n)<=(bytes (p.sd i) n).length:=Kd
 exact(kD h i (d:={ p.sd i with c:=((p.sd i).c.send p.now (bytes (p.sd i) n)).1,sent:=(p.sd i).sent+(p.sd i).c.nX (bytes (p.sd i) n) })
  ⟨hs.c.send h.zu _ O,b,II,II,II,m hs.nl⟩ (hs.c.G8 h.zu _ O) (j:=2010) II)
theorem Dg (h:Fit p q r)(i:Bool)(n:Int):Fit (p.recv i n) (q+2010) (r+2010):=by
 have hs:=h.sd i;have e:=An hs.c h.zu n;have a:=hs.em (hs.c.recv h.zu n) e;unfold recv;dsimp only;split
 ·exact(oR h i (j:=1) a (by have:=e.xJ;dsimp only;omega)).mono O O
 exact(kD h i (j:=1) (d:={ p.sd i with c:=((p.sd i).c.recv p.now n).1,got:=(p.sd i).got++(p.sd i).c.bx.nB n,fin:=(p.sd i).fin||(p.sd i).c.qF n }) ⟨a.c,a.len,a.s0,a.sl,a.last,a.nl⟩ (hs.c.G9 h.zu n) e.xJ).mono O O
theorem DH (h:Fit p q r)(i:Bool):Fit (p.shut i) (q+2010) (r+2010):=by
 have hs:=h.sd i;have e:=yq hs.c h.zu;have a:=hs.em (hs.c.close h.zu) e;unfold shut;dsimp only;split
 ·exact h.mono O O
 split
 ·exact h.mono O O
 exact(kD h i (j:=1) (d:={ p.sd i with c:=((p.sd i).c.close p.now).1,closed:=true }) ⟨a.c,a.len,a.s0,a.sl,a.last,a.nl⟩ (hs.c.FM h.zu) e.xJ).mono O O
def Cp (p:Pr)(n:Int):Prop:=Fit p (3000*(n+1)) (87006000*(p.now+1)+3000*(n+1))/\p.now<=n/\7*p.now<=n+6000
theorem Cp.tkz {n:Int}(h:Cp p n)(h0:0<=n)(a:n+1<=29000)(b:7*p.now+6<=n+6000):Cp p.tick (n+1) :=
 ⟨(yw h.1 (by have:=h.2;omega)).mono O (by rw[(yv p).1];omega),by rw[(yv p).1];have:=h.2;omega⟩
end Pr
end
section
set_option maxHeartbeats 8000000
set_option maxRecDepth 100000
open Go.RowKit Go.Shelf
theorem rL (f:Fp) (c:Cn) (w:World) (h:kf f c w) (ok:c.Ok) :
  Calls Tryz.prog 75 #[f.C] w (dj f w c.expire.2 c.expire.1):=by
 have a1:=h.gl.top;have u:=H ok;have b:=H h;have l:=H (nA.refl f w);have a4:=ok.flight;have hu:=ok.fM;obtain⟨a5,a6,a7⟩:=hu;have a9:=ok.iq;have b0:=ok.lim;have bu:=ok.gi;clear h ok;by_cases I:0<c.flight
 ·have K:=H (show c.expire=({ c with cg:=c.cg.timeout c.flight,sc:=c.sc.timeout,mark:=c.next },[]) by unfold Cn.expire;rw[L7 I]);rw[K.o]
  go_enter Tryz.func75,Tryz.ntmps75
  go_wp2_with fail;refine(cr f c _ b.o u.sc).mono ?_;rintro e M⟨rfl,g⟩;replace l:=H (l.trans (.A1 g));replace b:=H (b.below g);clear g;have hd:decide (0<c.flight)=true:=Lc I;have c2:=b.cell 2 f.G Z;go_wp2_with fail;refine az (fun W:World=>W.cell? ⟨f.C,2,none⟩=some (f.G:Y)) (c2) fun m=>?_;have g:=(L3 M.heap.size M).drew;replace l:=H (l.trans (.A1 g));replace b:=H (b.below g);clear g c2;generalize M.drew=J at b l m|-;refine aA 0 1 2 3 ?_;refine aA 4 5 6 7 ?_;refine aM 9 10 ?_;refine aQ 11 ?_;refine aZ 8 fun t i=> ?_;go_simp;refine(cr f c J b.o u.sc).mono ?_;rintro e X⟨rfl,g⟩;replace l:=H (l.trans (.A1 g));replace b:=H (b.below g);clear g;go_simp;refine i.out _ _ (b.cell 2 _ Z) ?_;clear i t m;refine fun m=>aW ?_;refine aZ 12 fun t i=> ?_;go_simp;refine(aX f c X b.o).mono ?_;rintro e w4⟨rfl,g⟩;replace l:=H (l.trans (.A1 g));replace b:=H (b.below g);clear g;go_simp;refine i.out _ _ (b.cell 2 _ Z) ?_;clear i t m;refine fun m=>aW ?_;refine aZ 13 fun t i=> ?_;go_simp;refine(qu f.G c.cg c.flight c.next (by unfold aI;omega) u.cg w4 b.cg).mono ?_;rintro e E⟨rfl,hs,A⟩;replace l:=H (l.trans (.GX A));have B:=H (b.Hj hs A);clear hs A b;go_simp;refine i.out _ _ (B.cell 2 _ Z) ?_;clear i t m;refine fun m=>aW ?_;refine ay ?_ _;clear m;have c0:=B.cell 0 f.S Z;go_wp2_with fail;refine(jB f.S (f.S+1) c.sc _ B.sc).mono ?_;rintro e w6⟨rfl,hs,A⟩;replace l:=H (l.trans (.EK A));have x:=H (B.FB hs A);clear hs A B c0;go_wp2_with fail;refine(aX f _ _ x.o).mono ?_;rintro e w7⟨rfl,g⟩;replace l:=H (l.trans (.A1 g));replace x:=H (x.below g);clear g;have b1:=x.cell 10 c.mark Z;have b2:=x.free 10;go_wp2;go_ret;exact⟨_,Z,aL.nil _ _,x.set 10 _ _ Z Z Z Z Z,l.trans (.Da ((lh.refl _ _).setCell 10 _))⟩
 by_cases hz:c.iq=0
 ·have K:=H (show c.expire=(c,[]) by unfold Cn.expire;rw[L5 I,L7 hz]);rw[K.o];have hd:decide (0<c.flight)=false:=Lf I
  go_enter Tryz.func75,Tryz.ntmps75
  go_wp2_with fail;refine(cr f c _ b.o u.sc).mono ?_;rintro e M⟨rfl,g⟩;replace l:=H (l.trans (.A1 g));replace b:=H (b.below g);clear g;go_wp2_with fail;refine(fU f c _ b.o u.sc (kA u.o) (kB u.o)).mono ?_;rintro e J⟨rfl,g⟩;replace l:=H (l.trans (.A1 g));replace b:=H (b.below g);clear g;rw[hz];go_wp2;go_ret;exact⟨_,Z,aL.nil _ _,b.o,l.o⟩
 obtain⟨n,hn⟩:∃n,n=max 1 (min (min c.gi (c.limit-c.next)) c.iq):=⟨_,Z⟩;have K:=H (show c.expire=(c.nY n,[c.kl n]) by unfold Cn.expire;rw[L5 I,L5 hz,<-hn]);rw[K.o];have b8:=H hn;have b3:0<=n/\n<=1000:=O
 clear hn;have hd:decide (0<c.flight)=false:=Lf I
 go_enter Tryz.func75,Tryz.ntmps75
 go_wp2_with fail;refine(cr f c _ b.o u.sc).mono ?_;rintro e M⟨rfl,g⟩;replace l:=H (l.trans (.A1 g));replace b:=H (b.below g);clear g;have bv:(c.iq==0)=false:=Ll.2 hz;go_wp2_with fail;refine(fU f c _ b.o u.sc (kA u.o) (kB u.o)).mono ?_;rintro e J⟨rfl,g⟩;replace l:=H (l.trans (.A1 g));replace b:=H (b.below g);clear g;have c7:=b.cell 7 c.gi Z;have c5:=b.cell 5 c.limit Z;go_wp2_with fail;refine az (fun W:World=>W.cell? ⟨f.C,7,none⟩=some (c.gi:Y)/\W.cell? ⟨f.C,5,none⟩=some (c.limit:Y)) (⟨c7,c5⟩) fun m=>?_;have g:=(L3 J.heap.size J).drew;replace l:=H (l.trans (.A1 g));replace b:=H (b.below g);clear g c7 c5;generalize J.drew=X at b l m|-;refine aA 0 1 2 3 ?_;refine aA 4 5 6 7 ?_;refine aA 8 9 10 11 ?_;refine aM 12 13 ?_;refine aQ 16 ?_;refine aZ 14 fun t i=> ?_;go_simp;refine(aX f c X b.o).mono ?_;rintro e w4⟨rfl,g⟩;replace l:=H (l.trans (.A1 g));replace b:=H (b.below g);clear g;go_simp;refine i.out _ _ (⟨b.cell 7 c.gi Z,b.cell 5 c.limit Z⟩) ?_;clear i t m;refine fun m=>aW ?_;have N:IntKind.i64.wrap (c.limit-c.next)=c.limit-c.next:=LC _ O;refine aQ 15 (v:=.int .i64 (c.limit-c.next)) ?_ (hy:=by intro w z;(obtain⟨z0,z1⟩:=z);go_simp;(try exact N));clear N;refine aQ 17 (v:=.int .i64 (min (min c.gi (c.limit-c.next)) c.iq)) ?_ (hy:=by intro w z;(obtain⟨z0,z1⟩:=z);go_simp;(try (split <;> (try split) <;> omega)));obtain⟨n1,F⟩:∃n1,n1=min (min c.gi (c.limit-c.next)) c.iq:=⟨_,Z⟩;rw[<-F];have bI:n=max 1 n1:=by rw[b8.o,F]
 refine aQ 18 (v:=.int .i64 n) ?_ (hy:=by intro w z;(obtain⟨z0,z1⟩:=z);go_simp;(try (rw[bI];first | (split <;> omega) | omega)));clear F bI;refine aZ 19 fun t i=> ?_;go_simp;refine(jY f c n w4 b.o u.o O).mono ?_;rintro e E⟨a,s,rfl,P,A,T⟩;replace l:=H (l.trans T);have B:=H A;have V:=H P;clear A T P b;unfold dZ;go_simp;refine i.out _ _ (⟨B.cell 7 c.gi Z,B.cell 5 c.limit Z⟩) ?_;clear i t m;refine fun m=>aW ?_;have U:=(L3 E.heap.size E).alloc (L4 _) (.cells (aY (c.kl n,a,s)).toArray 53);have HN:=H (bj (aT.new E (c.kl n,a,s)));have x:=H (B.below U);refine aZ 20 fun t i=> ?_;go_simp;refine i.out _ _ ((show(E.alloc (.cells (aY (c.kl n,a,s)).toArray 53)).cell? ⟨f.C,7,none⟩=some (c.gi:Y)/\(E.alloc (.cells (aY (c.kl n,a,s)).toArray 53)).cell? ⟨f.C,5,none⟩=some (c.limit:Y)from⟨x.cell 7 c.gi Z,x.cell 5 c.limit Z⟩)) ?_;clear i t m;refine fun m=>aW ?_;change wpAnyH _ _ _ _ _ _ _ _ (E.alloc (.cells (aY (c.kl n,a,s)).toArray 53));replace l:=H (l.trans (.A1 U));replace V:=H (V.keep U.size (.below U));clear U B;generalize E.heap.size=NB at HN|-;generalize E.alloc (.cells (aY (c.kl n,a,s)).toArray 53)=w6 at HN x l V m|-;refine aZ 21 fun t i=> ?_;go_simp;change Calls _ _ #[Value.slice none 0 0,Value.slice (some ⟨NB,0,none⟩) [((c.kl n,a,s):cQ)].length 1] _ _;refine(cN w6 w.heap.size _ [] (cI.nil _ _) NB 0 1 [(c.kl n,a,s)] HN.o (fun y hy=>by rw[Lu.1 hy];exact V.o) FE l.size).mono ?_;rintro e w8⟨v',rfl,h1,h2,-⟩;have aC:=H (x.grown h2 (fun k e=>by cases e));have aF:=H (l.grown h2 (fun k e=>by cases e));have HL:=H (show aL w8 w.heap.size v' [c.kl n]from⟨_,Z,h1⟩);clear h1 h2;go_simp;refine i.out _ _ ⟨aC.cell 7 c.gi Z,aC.cell 5 c.limit Z⟩ ?_;clear i t m;refine fun m=>aW ?_;refine aQ 22 ?_;refine ay ?_ _;clear m;go_wp2;go_ret;exact⟨_,Z,HL.o,aC.o,aF.o⟩
end
section
set_option maxHeartbeats 8000000
set_option maxRecDepth 100000
open Go.RowKit Go.Shelf
structure Lw (f:Fp)(w0:World)(v:Value)(L:List Sg)(c:Cn)(W:World):Prop where
 cn:kf f c W
 ch:nA f w0 W
 own:aL W w0.heap.size v L
namespace Lw
variable {f : Fp} {c d : Cn} {w0 W W' : World} {v : Value} {L : List Sg}
theorem start (h:kf f c W):Lw f W (.slice none 0 0) [] c W:=⟨h,.refl _ _,.nil _ _⟩
theorem oz (h:Lw f w0 v L c W)(a:Below W.heap.size W W'):Lw f w0 v L c W':=⟨h.cn.below a,h.ch.trans (.A1 a),h.own.below a⟩
theorem call (h:Lw f w0 v L c W)(b:kf f d W')(a:nA f W W'):Lw f w0 v L d W':=⟨b,h.ch.trans a,h.own.sT h.cn a⟩
end Lw
theorem aL.ty {w:World}{base:Nat}{v:Value}{L:List Sg}(h:aL w base v L):∀k,v.ownBlock=some k->dX w k 53:=by
 obtain⟨M,e,h⟩:=h;exact h.ty
theorem aL.lo {w:World}{base:Nat}{v:Value}{L:List Sg}(h:aL w base v L):∀k,v.ownBlock=some k->base<=k:=by
 obtain⟨M,e,h⟩:=h;exact fun k e=>(h.lt k e).1
theorem aL.low {w:World}{base b':Nat}{v:Value}{L:List Sg}(h:aL w base v L)(a:b'<=base):aL w b' v L:=by
 obtain⟨M,e,h⟩:=h;exact⟨M,e,h.mono a⟩
def C7 (w:World)(base:Nat)(v:Value)(L:List Sg)(e:Ending)(w':World):Prop:=∃v',e= .returned v'/\aL w' base v' L/\w.grownBy w' v.ownBlock
theorem gR (w:World)(base u:Nat)(v o:Value)(L M:List Sg)(h:aL w base v L)(h2:aL w u o M)(s:L.length+M.length<=1300000000000)(b:base<=w.heap.size) :
  Calls Tryz.prog 31 #[v,o] w (C7 w base v (L++M)):=by
 obtain⟨l,rfl,h⟩:=h;obtain⟨m,rfl,h2⟩:=h2;rw[LI,LI]at s;by_cases x:0<m.length
 ·obtain⟨g,i,rfl,y,z,t,n⟩:=h2.cells x;refine(cN w base v l h g 0 i m n h2.2 s b).mono ?_;rintro e w' ⟨v',rfl,A,B,-⟩;exact⟨v',Z,⟨l++m,by rw[LN],A⟩,B⟩
 obtain rfl:m=[]:=LR O;obtain⟨a,i,rfl,-,-⟩:=h2.val;refine(vt w base v l h a i).mono ?_;rintro e w' ⟨rfl,rfl⟩;exact⟨v,Z,⟨l,FE,h⟩,⟨Z,Z,Z,L4 _,fun _ _ _=>rfl⟩⟩
theorem gS {c:Cn}(ok:c.Ok)(now:Int):(c.push now).2.length<=1250000000001:=by
 unfold Cn.push;split
 ·simp
 dsimp only
 have h1:(if ae c.st=true then c.o6 now else(c,[])).2.length<=1250000000000:=by
  split
  ·exact oP ok now
  simp
 generalize (if ae c.st=true then c.o6 now else(c,[]))=a at h1|-;unfold Cn.qD;split
 ·rw[La,Mo];omega
 dsimp only;omega
theorem tA (c:Cn):c.expire.2.length<=1:=by
 unfold Cn.expire;split
 ·simp
 split <;> simp
def Cn.Ge (c:Cn):Cn:={ c with tries:=c.tries+1 }
def Cn.back (c:Cn)(now:Int):Cn:={ c with tries:=c.tries+1,tm:=c.tm.og.ka,dl:=.wA now c.tm.og.ka.value }
theorem Cn.Gf (c:Cn)(now:Int):c.tick now =
 if c.st=0 then(c,[])
 else if c.st=9/\c.per.due now=true then(c.finish now 9 0,[])
 else if c.dl.due now=true then(if 12<c.tries+1 then(c.Ge.finish now 9 182,[])else if bU c.st=true then(c.back now).expire.1.oi now (c.back now).expire.2 else((c.back now).v6,[(c.back now).qI]))
 else c.oi now []:=Z
theorem Cn.t7 (c:Cn)(now:Int)(l:List Sg):c.oi now l=(((if c.pend=1/\c.pd.due now=true then c.gB else c).push now).1,l++((if c.pend=1/\c.pd.due now=true then c.gB else c).push now).2):=rfl
theorem Cn.Ok.back {c:Cn}(h:c.Ok){now:Int}(b:aI now)(g:¬12<c.tries+1):(c.back now).Ok:=by
 have a:0<=c.tm.og.ka.value/\c.tm.og.ka.value<=1000:=by
  have h1:=c.tm.og.ka.CM;have h2:(0:Int)<=c.tm.og.ka.base*2 ^ c.tm.og.ka.backs.toNat:=MS O (Nf D);unfold Tm.value;omega
 exact { h with tr:=by have:=h.tr;show 0<=c.tries+1/\c.tries+1<=13;omega,tr2:=fun _=>by show c.tries+1<=12;omega,tm:=Tm.zw (Tm.tv h.tm),dl:=Al.zv b a.1 a.2 }
theorem oS (f:Fp) (c:Cn) (now:Int) (w:World) (h:kf f c w) (ok:c.Ok) (hn:aI now) :
  Calls Tryz.prog 34 #[f.C,now] w (dj f w (c.tick now).2 (c.tick now).1):=by
 have G:=H hn;have x:=h.gl.top;have c3:=h.lt;have t:=H ok;have a:=H (Lw.start h);have b2:=ok.tr;obtain⟨b9,ba⟩:=b2;clear h ok hn;obtain⟨R,hR⟩:∃R,R=c.tick now:=⟨_,Z⟩;rw[<-hR];have i:=H (hR.trans (Cn.Gf c now));clear hR
 go_enter Tryz.func34,Tryz.ntmps34
 go_wp2_with fail;refine(bV f c _ a.cn).mono ?_;rintro e w1⟨rfl,n⟩;replace a:=H (a.oz n);clear n;by_cases h0:c.st=0
 ·have b0:=H (i.trans (L7 h0));replace i:=b0;clear b0;have b8:decide (c.st=0)=true:=Lc h0;clear h0;go_wp2;go_ret;exact⟨_,Z,by rw[i.o];exact aL.nil _ _,by rw[i.o];exact a.cn,a.ch⟩
 have H0:=H h0;have b8:decide (c.st=0)=false:=Lf h0;clear h0;replace i:=H (i.trans (by rw[L5 H0.o]));have a9:=a.cn.cell 28 c.st Z;by_cases h9:c.st=9
 focus
  have H9:=H h9;rw[h9]at a9;clear h9;have bb:=a.cn.cell 34 c.per.set Z;have bc:=a.cn.cell 35 c.per.since Z;have bd:=a.cn.cell 36 c.per.ticks Z;go_wp2_with fail;refine(ju c.per now _ G.o t.per.1 t.per.2).mono ?_;rintro e w2⟨rfl,n⟩;replace a:=H (a.oz n);clear n;clear bb bc bd a9;by_cases s:c.per.due now=true
  ·have u:=H s;have M:=s;clear s;replace i:=H (i.trans (by rw[L7 ⟨H9.o,u.o⟩]));go_wp2_with fail;refine(eR f c now 9 0 _ a.cn t.st D).mono ?_;rintro e z⟨rfl,l,g⟩;replace a:=H (a.call l g);clear l g;go_wp2;go_ret;exact⟨_,Z,by rw[i.o];exact aL.nil _ _,by rw[i.o];exact a.cn,a.ch⟩
  have u:=H s;have M:c.per.due now=false:=JB
  clear s;replace i:=H (i.trans (by rw[L5 (fun h=>u.o h.2)]))
 rotate_left 1
 focus
  have H9:=H h9;have bz:(c.st==9)=false:=Ll.2 h9;clear h9;replace i:=H (i.trans (by rw[L5 (fun h=>H9.o h.1)]))
 all_goals
  have ad:=a.cn.cell 30 c.dl.set Z;have al:=a.cn.cell 31 c.dl.since Z;have am:=a.cn.cell 32 c.dl.ticks Z;go_wp2_with fail;refine(ju c.dl now _ G.o t.dl.1 t.dl.2).mono ?_;rintro e w2⟨rfl,n⟩;replace a:=H (a.oz n);clear n;clear ad al am;by_cases hd:c.dl.due now=true
  ·have HD:=H hd;have c0:=hd;clear hd;have c1:=a.cn.cell 1 f.T Z;have b3:=a.cn.cell 33 c.tries Z;have b4:=a.cn.free 33;have N:=H (a.call (a.cn.set 33 (c.tries+1:Int) c.Ge Z Z Z Z Z) (.Da ((lh.refl _ _).setCell 33 _)));by_cases U:12<c.tries+1
   ·have HV:=H U;replace i:=H (i.trans (by rw[L7 HD.o,L7 HV.o]));have be:decide (12<c.tries+1)=true:=Lc U;clear U;go_wp2_with fail;replace a:=N;clear N b3 b4 c1;refine(eR f c.Ge now 9 182 _ a.cn t.st D).mono ?_;rintro e z⟨rfl,l,g⟩;replace a:=H (a.call l g);clear l g;go_wp2;go_ret;exact⟨_,Z,by rw[i.o];exact aL.nil _ _,by rw[i.o];exact a.cn,a.ch⟩
   have HV:=H U;have be:decide (12<c.tries+1)=false:=Lf U;have aa:=H (t.back G.o U);have b5:=H t.tm;clear U;go_wp2_with fail;replace a:=N;clear N b3 b4 c1;refine(qX f.T c.Ge.tm _ a.cn.tm).mono ?_;rintro e z⟨rfl,ht,g⟩;replace a:=H (a.call (a.cn.Gx ht g) (.Gu g));clear ht g;have c1:=a.cn.cell 1 f.T Z;go_wp2_with fail;clear c1;refine(qZ f.T c.tm.og (Tm.tv b5.o).1 _ a.cn.tm).mono ?_;rintro e z⟨rfl,ht,g⟩;replace a:=H (a.call (a.cn.Gx ht g) (.Gu g));clear ht g;have c1:=a.cn.cell 1 f.T Z;go_wp2_with fail;clear c1;refine(ig f.T c.tm.og.ka (Tm.zw (Tm.tv b5.o)).1 _ a.cn.tm).mono ?_;rintro e w2⟨rfl,n⟩;replace a:=H (a.oz n);clear n;go_wp2_with fail;refine(dR _ _ _).mono ?_;rintro e w3⟨rfl,n⟩;replace a:=H (a.oz n);clear n;have ad:=a.cn.cell 30 c.dl.set Z;have al:=a.cn.cell 31 c.dl.since Z;have am:=a.cn.cell 32 c.dl.ticks Z;have b6:=a.cn.free 30;have b7:=a.cn.free 31;have a2:=a.cn.free 32;have a9:=a.cn.cell 28 c.st Z;have N:=H (a.call (((a.cn.set 30 true { c.back now with dl:=⟨true,c.dl.since,c.dl.ticks⟩ } Z Z Z Z Z).set 31 now { c.back now with dl:=⟨true,now,c.dl.ticks⟩ } Z Z Z Z Z).set 32 c.tm.og.ka.value (c.back now) Z Z Z Z Z) (.Da ((((lh.refl _ _).setCell 30 _).setCell 31 _).setCell 32 _)));by_cases hy:bU c.st=true
   ·have HY:=H hy;have bk:dg c.st=true:=hy;clear hy;go_wp2_with fail;replace a:=N;clear N ad al am b6 b7 a2 a9;refine(bS c.st _).mono ?_;rintro e w2⟨rfl,rfl⟩;replace i:=H (i.trans (by rw[L7 HD.o,L5 (by have:=HV.o;omega),L7 HY.o]));generalize c.back now=b at a aa i;go_wp2_with fail;refine(rL f b _ a.cn aa.o).mono ?_;rintro e z⟨vL,rfl,hl,l,g⟩;have an:=H (show Lw f w vL b.expire.2 b.expire.1 z from⟨l,a.ch.trans g,aL.low hl a.ch.size⟩);have P:=H aa.expire;have S:=H (show b.expire.2.length<=1 from tA b);clear hl l g a;generalize b.expire.1=d at an P i;generalize b.expire.2=L at an S i;have a:=an;clear an;have I:=a.cn.cell 18 d.pend Z;by_cases A:d.pend=1
    ·have J:=H A;rw[A]at I;clear A;have V:=a.cn.cell 19 d.pd.set Z;have X:=a.cn.cell 20 d.pd.since Z;have a0:=a.cn.cell 21 d.pd.ticks Z;go_wp2_with fail;refine(ju d.pd now _ G.o P.pd.1 P.pd.2).mono ?_;rintro e w2⟨rfl,n⟩;replace a:=H (a.oz n);clear n;clear V X a0;by_cases s:d.pd.due now=true
     ·have u:=H s;have M:=s;clear s;go_wp2_with fail;clear M I;refine(cK f d _ a.cn).mono ?_;rintro e z⟨rfl,l,g⟩;replace a:=H (a.call l g);clear l g;go_wp2_with fail;refine(aq f d.gB now _ a.cn P.gB G.o).mono ?_;rintro e z⟨v2,rfl,m,l,g⟩;replace a:=H (a.call l g);have K:=H m;clear m l g;go_wp2_with fail;refine(gR _ w.heap.size _ _ _ L _ a.own K.o (by have:=gS P.gB now;have:=S.o;omega) a.ch.size).mono ?_;rintro e wz⟨v',rfl,h1,h2⟩;have B:=H (a.cn.grown h2 (fun k e=>⟨aL.ty a.own k e,L8 x (aL.lo a.own k e)⟩));have E:=H (a.ch.grown h2 (fun k e=>aL.lo a.own k e));have F:=H h1;clear h1 h2;go_wp2;go_ret;exact⟨_,Z,by rw[i.o,Cn.t7,L7 ⟨J.o,u.o⟩];exact F.o,by rw[i.o,Cn.t7,L7 ⟨J.o,u.o⟩];exact B.o,E.o⟩
     have M:d.pd.due now=false:=JB
     have u:=H M;clear s;go_wp2_with fail;refine(aq f d now _ a.cn P.o G.o).mono ?_;rintro e z⟨v2,rfl,m,l,g⟩;replace a:=H (a.call l g);have K:=H m;clear m l g;go_wp2_with fail;refine(gR _ w.heap.size _ _ _ L _ a.own K.o (by have:=gS P.o now;have:=S.o;omega) a.ch.size).mono ?_;rintro e wz⟨v',rfl,h1,h2⟩;have B:=H (a.cn.grown h2 (fun k e=>⟨aL.ty a.own k e,L8 x (aL.lo a.own k e)⟩));have E:=H (a.ch.grown h2 (fun k e=>aL.lo a.own k e));have F:=H h1;clear h1 h2;go_wp2;go_ret;exact⟨_,Z,KK,KL,E.o⟩
    have J:=H A;have c2:(d.pend==1)=false:=Ll.2 A;clear A;go_wp2_with fail;refine(aq f d now _ a.cn P.o G.o).mono ?_;rintro e z⟨v2,rfl,m,l,g⟩;replace a:=H (a.call l g);have K:=H m;clear m l g;go_wp2_with fail;refine(gR _ w.heap.size _ _ _ L _ a.own K.o (by have:=gS P.o now;have:=S.o;omega) a.ch.size).mono ?_;rintro e wz⟨v',rfl,h1,h2⟩;have B:=H (a.cn.grown h2 (fun k e=>⟨aL.ty a.own k e,L8 x (aL.lo a.own k e)⟩));have E:=H (a.ch.grown h2 (fun k e=>aL.lo a.own k e));have F:=H h1;clear h1 h2;go_wp2;go_ret;exact⟨_,Z,by rw[i.o,Cn.t7,L5 (fun h=>J.o h.1)];exact F.o,by rw[i.o,Cn.t7,L5 (fun h=>J.o h.1)];exact B.o,E.o⟩
   have HY:=H hy;have bk:dg c.st=false:=by cases s:dg c.st with | false=>rfl | true=>exact absurd s hy
   clear hy;go_wp2_with fail;replace a:=N;clear N ad al am b6 b7 a2 a9;refine(bS c.st _).mono ?_;rintro e w2⟨rfl,rfl⟩;replace i:=H (i.trans (by rw[L7 HD.o,L5 (by have:=HV.o;omega),L5 HY.o]));generalize c.back now=b at a aa i;go_wp2_with fail;refine(jy f b _ a.cn aa.o).mono ?_;rintro e w4⟨ag,cg,rfl,b1,l,g⟩;replace a:=H (a.call l g);have av:=H b1;clear l g b1;unfold dZ;have a3:=(L3 w4.heap.size w4).alloc (L4 _) (.cells (aY (b.qI,ag,cg)).toArray 53);have ax:=H (bj (aT.new w4 (b.qI,ag,cg)));replace av:=H (av.keep a3.size (.below a3));replace a:=H (a.oz a3);clear a3;go_wp2_with fail;change Calls _ _ #[Value.slice none 0 0,Value.slice (some ⟨w4.heap.size,0,none⟩) [((b.qI,ag,cg):cQ)].length 1] (w4.alloc (.cells (aY (b.qI,ag,cg)).toArray 53)) _;generalize w4.heap.size=NB at ax|-;generalize w4.alloc (.cells (aY (b.qI,ag,cg)).toArray 53)=w6 at ax a av|-;refine(cN w6 w.heap.size _ [] (cI.nil _ _) NB 0 1 [(b.qI,ag,cg)] ax.o (fun y hy=>by rw[Lu.1 hy];exact av.o) FE a.ch.size).mono ?_;rintro e w8⟨v',rfl,h1,h2,-⟩;have B:=H (a.cn.grown h2 (fun k e=>by cases e));have E:=H (a.ch.grown h2 (fun k e=>by cases e));have F:=H (show aL w8 w.heap.size v' [b.qI]from⟨_,Z,h1⟩);clear h1 h2;go_wp2;go_ret;exact⟨_,Z,by rw[i.o];exact F.o,by rw[i.o];exact B.o,E.o⟩
  have HD:=H hd;have c0:c.dl.due now=false:=by simpa using hd
  clear hd;replace i:=H (i.trans (by rw[L5 HD.o]));have S:=H (show([]:List Sg).length<=1 by simp);generalize bn:c=d at *;clear bn;generalize hL:([]:List Sg)=L at a S i;clear hL;have I:=a.cn.cell 18 d.pend Z;by_cases A:d.pend=1
  ·have J:=H A;rw[A]at I;clear A;have V:=a.cn.cell 19 d.pd.set Z;have X:=a.cn.cell 20 d.pd.since Z;have a0:=a.cn.cell 21 d.pd.ticks Z;go_wp2_with fail;refine(ju d.pd now _ G.o t.pd.1 t.pd.2).mono ?_;rintro e w2⟨rfl,n⟩;replace a:=H (a.oz n);clear n;clear V X a0;by_cases s:d.pd.due now=true
   ·have u:=H s;have M:=s;clear s;go_wp2_with fail;clear M I;refine(cK f d _ a.cn).mono ?_;rintro e z⟨rfl,l,g⟩;replace a:=H (a.call l g);clear l g;go_wp2_with fail;refine(aq f d.gB now _ a.cn t.gB G.o).mono ?_;rintro e z⟨v2,rfl,m,l,g⟩;replace a:=H (a.call l g);have K:=H m;clear m l g;go_wp2_with fail;refine(gR _ w.heap.size _ _ _ L _ a.own K.o (by have:=gS t.gB now;have:=S.o;omega) a.ch.size).mono ?_;rintro e wz⟨v',rfl,h1,h2⟩;have B:=H (a.cn.grown h2 (fun k e=>⟨aL.ty a.own k e,L8 x (aL.lo a.own k e)⟩));have E:=H (a.ch.grown h2 (fun k e=>aL.lo a.own k e));have F:=H h1;clear h1 h2;go_wp2;go_ret;exact⟨_,Z,by rw[i.o,Cn.t7,L7 ⟨J.o,u.o⟩];exact F.o,by rw[i.o,Cn.t7,L7 ⟨J.o,u.o⟩];exact B.o,E.o⟩
   have M:d.pd.due now=false:=JB
   have u:=H M;clear s;go_wp2_with fail;refine(aq f d now _ a.cn t.o G.o).mono ?_;rintro e z⟨v2,rfl,m,l,g⟩;replace a:=H (a.call l g);have K:=H m;clear m l g;go_wp2_with fail;refine(gR _ w.heap.size _ _ _ L _ a.own K.o (by have:=gS t.o now;have:=S.o;omega) a.ch.size).mono ?_;rintro e wz⟨v',rfl,h1,h2⟩;have B:=H (a.cn.grown h2 (fun k e=>⟨aL.ty a.own k e,L8 x (aL.lo a.own k e)⟩));have E:=H (a.ch.grown h2 (fun k e=>aL.lo a.own k e));have F:=H h1;clear h1 h2;go_wp2;go_ret;exact⟨_,Z,KK,KL,E.o⟩
  have J:=H A;have c2:(d.pend==1)=false:=Ll.2 A;clear A;go_wp2_with fail;refine(aq f d now _ a.cn t.o G.o).mono ?_;rintro e z⟨v2,rfl,m,l,g⟩;replace a:=H (a.call l g);have K:=H m;clear m l g;go_wp2_with fail;refine(gR _ w.heap.size _ _ _ L _ a.own K.o (by have:=gS t.o now;have:=S.o;omega) a.ch.size).mono ?_;rintro e wz⟨v',rfl,h1,h2⟩;have B:=H (a.cn.grown h2 (fun k e=>⟨aL.ty a.own k e,L8 x (aL.lo a.own k e)⟩));have E:=H (a.ch.grown h2 (fun k e=>aL.lo a.own k e));have F:=H h1;clear h1 h2;go_wp2;go_ret;exact⟨_,Z,by rw[i.o,Cn.t7,L5 (fun h=>J.o h.1)];exact F.o,by rw[i.o,Cn.t7,L5 (fun h=>J.o h.1)];exact B.o,E.o⟩
end
end Go.Proofs.YtcmncipikdpnbaaGreatDoor
