import Derived.Test.YtclkcmidhhfdmaaGreatDoorUb25
namespace Go.Proofs.YtclkcmidhhfdmaaGreatDoor
open Lib (hid)
section
def Sc.free (s:Sc):Int:=s.next-s.una-aC s.sk-aC s.ag
theorem Sc.Ok.free_eq {s:Sc}(h:s.Ok):s.free=eO (fun i=>((s.una<=i/\i<s.next)/\¬af i s.sk)/\¬af i s.ag) s.next.toNat:=by
 have hn:=h.nat;have hu:=h.u0;have hun:=h.un;have e0:=jy (a:=s.una) (b:=s.next) hu hun s.next.toNat;have e1:=ck h.csk (n:=s.next.toNat) (fun i hi=>by have:=h.msk i hi;omega);have e2:=ck h.cag (n:=s.next.toNat) (fun i hi=>by have:=h.mag i hi;omega)
 have e3:eO (fun i=>s.una<=i/\i<s.next) s.next.toNat=eO (fun i=>af i s.sk) s.next.toNat+eO (fun i=>(s.una<=i/\i<s.next)/\¬af i s.sk) s.next.toNat:=fR (fun i=>by
  constructor
  ·intro k;by_cases hm:af i s.sk
   ·exact .inl hm
   exact .inr ⟨k,hm⟩
  rintro (k | k)
  ·exact h.msk i k
  exact k.1) (fun i a b=>b.2 a)
 have e4:eO (fun i=>(s.una<=i/\i<s.next)/\¬af i s.sk) s.next.toNat=eO (fun i=>af i s.ag) s.next.toNat+eO (fun i=>((s.una<=i/\i<s.next)/\¬af i s.sk)/\¬af i s.ag) s.next.toNat:=fR (fun i=>by
  constructor
  ·intro k;by_cases hm:af i s.ag
   ·exact .inl hm
   exact .inr ⟨k,hm⟩
  rintro (k | k)
  ·have:=h.mag i k;exact⟨⟨this.1,this.2.1⟩,this.2.2⟩
  exact k.1) (fun i a b=>b.2 a)
 unfold Sc.free;omega
theorem Sc.Ok.free_bd {s:Sc}(h:s.Ok):0<=s.free:=by rw[h.free_eq];exact iA _ _
theorem Sc.Ok.free_ack {s:Sc}(h:s.Ok)(una:Int)(l:List Sp):(s.acked una l).free<=s.free/\(s.acked una l).next=s.next:=by
 unfold Sc.acked;split
 ·rename_i hb;have k1:=(h.ack_sk hb).2;have k2:=(h.ack_ag hb).2;have hk:=h.ackS hb;refine⟨?_,rfl⟩;rw[hk.free_eq,h.free_eq];refine sI fun i hi=> ?_;obtain⟨⟨⟨h1,h2⟩,h3⟩,h4⟩:=hi;have h1':max s.una una<=i:=h1;rw[k2]at h4;refine⟨⟨⟨by omega,h2⟩,fun m=>h3 ((k1 i).2 ⟨h1',.inl m⟩)⟩,fun m=>h4 ⟨⟨h1',m⟩,h3⟩⟩
 exact⟨Int.le_refl _,rfl⟩
theorem Sc.free_sent {s:Sc}{t:Int}(h1:s.next<=t)(h2:t<=1099511627776):(s.sent t).free=s.free+(t-s.next)/\(s.sent t).next=t:=by
 have e:s.sent t={ s with next:=t }:=by
  unfold Sc.sent Sc.sentB;rw[if_pos (decide_eq_true ⟨h1,h2⟩)]
 rw[e];unfold Sc.free;exact⟨by dsimp only;omega,rfl⟩
theorem Sc.free_timeout (s:Sc):s.timeout.free=s.next-s.una:=by
 unfold Sc.timeout Sc.free
 simp[aC]
theorem tg {c:Cn}(ok:c.Ok){x:Sp}{t:List Sp}(hl:c.sc.lost c.mss=x::t):(c.sc.ret (aS c.mss x)).free+1<=c.sc.free/\(c.sc.ret (aS c.mss x)).next=c.sc.next/\c.sc.retE (aS c.mss x)=0:=by
 have hm:=ok.mss;have hx:x∈c.sc.lost c.mss:=by rw[hl];simp
 obtain⟨ha,-,-,-⟩:=eA ok.sc (m:=c.mss) (by omega) hx;unfold gb at ha;have hc2:(aS c.mss x).2=min x.2 (x.1+c.mss):=rfl;have hc1:(aS c.mss x).1=x.1:=rfl;obtain⟨r1,-,r3⟩:=mx ok.sc (m:=c.mss) (by omega) hx (x:=aS c.mss x) rfl (by omega) (by omega);rw[iU _ (by omega),iU _ (by omega),lI (s:=c.sc) (t:=c.sc.retS (aS c.mss x)) rfl rfl rfl rfl c.mss,show(c.sc.retS (aS c.mss x)).gaps=c.sc.gaps from rfl]at r3;have e:c.sc.ret (aS c.mss x)=c.sc.retS (aS c.mss x):=by unfold Sc.ret;rw[if_pos r1]
 rw[e];refine⟨?_,rfl,by unfold Sc.retE;rw[if_pos r1]⟩;have e1:(c.sc.retS (aS c.mss x)).next=c.sc.next:=rfl;have e2:(c.sc.retS (aS c.mss x)).una=c.sc.una:=rfl;have e3:(c.sc.retS (aS c.mss x)).sk=c.sc.sk:=rfl;unfold Sc.free;rw[e1,e2,e3];omega
def Cn.pot (c:Cn):Int:=2*(c.last+1-c.next)+c.sc.free
structure Em (c d:Cn)(k j:Int):Prop where
 last:d.last=c.last
 nl:c.next<=c.last+1->d.next<=d.last+1
 pot:k+d.pot<=c.pot+j
namespace Em
variable {c d e : Cn} {k j k' j' : Int}
theorem refl (c:Cn):Em c c 0 0:=⟨rfl,id,by omega⟩
theorem trans (h:Em c d k j)(g:Em d e k' j'):Em c e (k+k') (j+j'):=⟨g.last.trans h.last,fun x=>g.nl (h.nl x),by have:=h.pot;have:=g.pot;omega⟩
theorem trans0 (h:Em c d 0 0)(g:Em d e 0 0):Em c e 0 0:=⟨g.last.trans h.last,fun x=>g.nl (h.nl x),by have:=h.pot;have:=g.pot;omega⟩
theorem mono (h:Em c d k j)(hk:k'<=k)(hj:j<=j'):Em c d k' j':=⟨h.last,h.nl,by have:=h.pot;omega⟩
theorem same (c d:Cn)(h1:d.sc=c.sc)(h2:d.held=c.held)(h3:d.base=c.base):Em c d 0 0:=by
 have hl:d.last=c.last:=by unfold Cn.last;rw[h2,h3]
 have hn:d.next=c.next:=by unfold Cn.next;rw[h1]
 exact⟨hl,fun h=>by rw[hl,hn];exact h,by unfold Cn.pot;rw[hl,hn,h1];omega⟩
end Em
theorem Cn.step_em (c:Cn)(now e:Int):Em c (c.step now e) 0 0:=by
 unfold Cn.step;split
 ·exact .refl c
 split <;> exact .same _ _ rfl rfl rfl
theorem Cn.ackC_em (c:Cn)(b:Bool):Em c (c.ackC b) 0 0:=by unfold Cn.ackC;split <;> exact .same _ _ rfl rfl rfl
theorem Cn.synC_em (c:Cn):Em c c.synC 0 0:=by unfold Cn.synC;split <;> exact .same _ _ rfl rfl rfl
theorem lf {c:Cn}(ok:c.Ok){n:Int}(h0:0<=n)(hn:n<=c.last-c.next)(h1:1<=n\/(c.shut=true/\c.next=c.last)):Em c (c.freshC n) 1 0:=by
 have hb:=ok.b1
 have hf:c.next+1<=c.freshTo n/\c.freshTo n<=c.last+1:=by
  unfold Cn.freshTo;split
  ·omega
  rename_i hne
  rcases h1 with h1 | ⟨h1,h2⟩
  ·omega
  exact absurd ⟨h1,by omega⟩ hne
 obtain⟨f1,f2⟩:=Sc.free_sent (s:=c.sc) (t:=c.freshTo n) (show c.next<=_ by omega) (by omega);have hl:(c.freshC n).last=c.last:=by unfold Cn.freshC Cn.pieceC Cn.ackC;rfl
 have hx:(c.freshC n).next=c.freshTo n:=f2;have hs:(c.freshC n).sc=c.sc.sent (c.freshTo n):=rfl;have hq:c.sc.next=c.next:=rfl;exact⟨hl,fun _=>by rw[hl,hx];exact hf.2,by unfold Cn.pot;rw[hl,hx,hs,f1,hq];omega⟩
theorem th {c:Cn}(ok:c.Ok)(now:Int){n:Int}(h0:0<=n)(hn:n<=c.last-c.next)(h1:1<=n\/(c.shut=true/\c.next=c.last)):Em c (c.out now n) 1 0:=by
 have:=(lf ok h0 hn h1).trans (.same (c.freshC n) (c.out now n) rfl rfl rfl);exact this.mono (by omega) (by omega)
theorem ti (n:Nat):∀{c:Cn} (_:c.Ok) (l:List Sg),Em c (lostL n c l).1 (((lostL n c l).2.length:Int)-l.length) 0:=by
 induction n with
 | zero=>intro c _ l;exact(Em.refl c).mono (by simp[lostL]) (by omega)
 | succ n ih =>
  intro c ok l;by_cases hp:c.sc.pipe c.mss<c.cg.win
  ·cases hl:c.sc.lost c.mss with
   | nil =>
    rw[lostL,if_pos hp,hl];exact(Em.refl c).mono (by simp) (by omega)
   | cons x t =>
    obtain⟨f1,f2,f3⟩:=tg ok hl;rw[lostL,if_pos hp,hl];dsimp only;rw[if_pos f3];have hok:Cn.Ok { c.pieceC with sc:=c.sc.ret (aS c.mss x),tm:=c.tm.retr }:=(ok.pieceC.onSc (ok.sc.ret _)).onTm (Tm.retr_fit ok.tm);have h1:=ih hok (l++[c.pieceS x.1 (aS c.mss x).2])
    have h0:Em c { c.pieceC with sc:=c.sc.ret (aS c.mss x),tm:=c.tm.retr } 1 0:=by
     have ac:Cn.last { c.pieceC with sc:=c.sc.ret (aS c.mss x),tm:=c.tm.retr }=c.last:=rfl;have hne:Cn.next { c.pieceC with sc:=c.sc.ret (aS c.mss x),tm:=c.tm.retr }=c.next:=f2;exact⟨ac,fun h=>by rw[ac,hne];exact h,by unfold Cn.pot;rw[ac,hne];show _+(_+(c.sc.ret (aS c.mss x)).free)<=_;omega⟩
    exact(h0.trans h1).mono (by rw[List.length_append];simp;omega) (by omega)
  rw[lostL,if_neg hp];exact(Em.refl c).mono (by simp) (by omega)
theorem pF {c:Cn}(_ok:c.Ok)(h:0<c.allowed):c.allowed<=c.last-c.next:=by
 have hle:c.allowed<=c.unsent\/c.allowed<=0:=by
  unfold Cn.allowed;split
  ·omega
  split
  ·omega
  split <;> omega
 have hu:c.unsent=max 0 (c.last-c.next):=rfl;omega
theorem tj {now:Int}(hn:aI now)(n:Nat):∀{c:Cn} (_:c.Ok) (l:List Sg),Em c (sizeL now n c l).1 (((sizeL now n c l).2.length:Int)-l.length) 0:=by
 induction n with
 | zero=>intro c _ l;exact(Em.refl c).mono (by simp[sizeL]) (by omega)
 | succ n ih =>
  intro c ok l;rw[sizeL];split
  ·rename_i h;have h1:=ih (ok.out hn c.allowed) (l++[c.freshS c.allowed]);have h0:=th ok now (n:=c.allowed) (by omega) (pF ok h) (.inl (by omega));exact(h0.trans h1).mono (by rw[List.length_append];simp;omega) (by omega)
  exact(Em.refl c).mono (by simp) (by omega)
theorem vN {now:Int}{c:Cn}(ok:c.Ok)(l:List Sg):Em c (finL now c l).1 (((finL now c l).2.length:Int)-l.length) 0:=by
 unfold finL;split
 ·rename_i h;exact(th ok now (n:=0) (by omega) (by omega) (.inr h)).mono (by rw[List.length_append];simp;omega) (by omega)
 exact(Em.refl c).mono (by simp) (by omega)
theorem tn {c:Cn}(ok:c.Ok){now:Int}(hn:aI now):Em c (c.pushD now).1 (c.pushD now).2.length 0:=by
 unfold Cn.pushD;dsimp only;have h1:=ti (c.flight.toNat+1) ok [];have o1:=Cn.Ok.lostL (c.flight.toNat+1) ok [];generalize lostL (c.flight.toNat+1) c []=a at h1 o1|-;have h2:=tj hn (a.1.unsent.toNat+1) o1 a.2;have o2:=Cn.Ok.sizeL hn (a.1.unsent.toNat+1) o1 a.2;generalize sizeL now (a.1.unsent.toNat+1) a.1 a.2=b at h2 o2|-;have h3:=vN (now:=now) o2 b.2;exact((h1.trans h2).trans h3).mono (by rw[List.length_nil];omega) (by omega)
theorem ts (c:Cn)(l:List Sg):Em c (c.pushA l).1 (((c.pushA l).2.length:Int)-l.length) (if c.pend=2 then 1 else 0):=by
 unfold Cn.pushA;by_cases h:c.pend=2
 ·rw[if_pos h,if_pos h];have h:=c.ackC_em false;exact⟨h.last,h.nl,by have:=h.pot;dsimp only;rw[List.length_append,List.length_singleton];omega⟩
 rw[if_neg h,if_neg h];exact(Em.refl c).mono (by simp) (by omega)
theorem tu (c:Cn)(now:Int):Em c (c.pushT now) 0 0:=by
 unfold Cn.pushT;split
 ·exact .same _ _ rfl rfl rfl
 split
 ·exact .refl c
 exact .same _ _ rfl rfl rfl
theorem cU {c:Cn}(ok:c.Ok){now:Int}(hn:aI now):Em c (c.push now).1 (c.push now).2.length 1:=by
 unfold Cn.push;split
 ·exact(Em.refl c).mono (by simp) (by omega)
 dsimp only
 have key:∀a:Cn×List Sg,Em c a.1 a.2.length 0->Em c ((a.1.pushA a.2).1.pushT now) (a.1.pushA a.2).2.length 1:=by
  intro a ha;have h2:=ts a.1 a.2;exact((ha.trans h2).trans (tu _ now)).mono (by omega) (by split <;> omega)
 split
 ·exact key _ (tn ok hn)
 exact key (c,[]) ((Em.refl c).mono (by simp) (by omega))
theorem rN (c:Cn)(u:Int):(c.drop u).last=c.last:=by
 have:0<=eP c.held c.base u/\eP c.held c.base u<=c.held.length:=by unfold eP;omega
 unfold Cn.drop Cn.last;dsimp only;rw[List.length_drop];omega
theorem pw (c:Cn)(u:Int):Em c (c.drop u) 0 0:=by
 have hl:=rN c u;have hn:(c.drop u).next=c.next:=rfl;have hs:(c.drop u).sc=c.sc:=rfl;exact⟨hl,fun h=>by rw[hl,hn];exact h,by unfold Cn.pot;rw[hl,hn,hs];omega⟩
theorem rO {c:Cn}(ok:c.Ok)(a:Int)(bl:List Sp):Em c (c.report a bl) 0 0:=by
 obtain⟨h1,h2⟩:=ok.sc.free_ack a (ej c.sacks c.next c.cf.iss bl);have hl:(c.report a bl).last=c.last:=rfl;have hn:(c.report a bl).next=c.next:=h2;exact⟨hl,fun h=>by rw[hl,hn];exact h,by unfold Cn.pot;rw[hl,hn];show _+(_+(c.sc.acked a _).free)<=_;omega⟩
theorem nr {c:Cn}(ok:c.Ok)(now:Int)(s:Sg)(ack:Int):Em c (c.acked now s ack) 0 0:=by
 unfold Cn.acked;split
 ·exact .same _ _ rfl rfl rfl
 dsimp only;have h0:Em c (({ c with tries:=0 }:Cn).report ack s.bl) 0 0:=((Em.same c ({ c with tries:=0 }:Cn) rfl rfl rfl).trans0 (rO ok.tries0 ack s.bl));generalize ({ c with tries:=0 }:Cn).report ack s.bl=r at h0
 have h1:Em c (if c.una<ack then(if 0<ack-max c.una 1 then({ r with dl:=ex,tm:=r.tm.acked now ack,cg:=r.cg.acked (ack-max c.una 1) ack }:Cn)else { r with dl:=ex,tm:=r.tm.acked now ack }).drop ack else r) 0 0:=by
  split
  ·split
   ·exact((h0.trans0 (.same r ({ r with dl:=ex,tm:=r.tm.acked now ack,cg:=r.cg.acked (ack-max c.una 1) ack }:Cn) rfl rfl rfl)).trans0 (pw _ _))
   exact((h0.trans0 (.same r ({ r with dl:=ex,tm:=r.tm.acked now ack }:Cn) rfl rfl rfl)).trans0 (pw _ _))
  exact h0
 generalize (if c.una<ack then(if 0<ack-max c.una 1 then({ r with dl:=ex,tm:=r.tm.acked now ack,cg:=r.cg.acked (ack-max c.una 1) ack }:Cn)else { r with dl:=ex,tm:=r.tm.acked now ack }).drop ack else r)=a at h1
 have h2:Em c (if 0<c.repN ack s.bl/\(a.announce ack s.win).mark<=ack/\(a.announce ack s.win).sc.lost (a.announce ack s.win).mss≠[]then { a.announce ack s.win with cg:=(a.announce ack s.win).cg.lost c.flight (a.announce ack s.win).next }else a.announce ack s.win) 0 0:=by
  split <;> exact(h1.trans0 (.same _ _ rfl rfl rfl))
 generalize (if 0<c.repN ack s.bl/\(a.announce ack s.win).mark<=ack/\(a.announce ack s.win).sc.lost (a.announce ack s.win).mss≠[]then { a.announce ack s.win with cg:=(a.announce ack s.win).cg.lost c.flight (a.announce ack s.win).next }else a.announce ack s.win)=d at h2;split
 ·exact(h2.trans0 (d.step_em now 7))
 exact h2
theorem tv (c:Cn)(now:Int)(s:Sg)(off:Int):Em c (c.store now s off) 0 0:=by
 unfold Cn.store;split
 ·exact .refl c
 split
 ·split
  ·unfold Cn.ackSoon;split <;> exact .same _ _ rfl rfl rfl
  exact .same _ _ rfl rfl rfl
 exact .same _ _ rfl rfl rfl
theorem vO (c:Cn)(now:Int)(s:Sg)(off:Int):Em c (c.finS now s off) 0 0:=by
 unfold Cn.finS;dsimp only;have h1:Em c (if s.fin=true/\ao c.st=true/\c.ended=false/\c.bx.nx<=off+s.s.length then { c with ended:=true,fend:=off+s.s.length }else c) 0 0:=by split <;> exact .same _ _ rfl rfl rfl
 generalize (if s.fin=true/\ao c.st=true/\c.ended=false/\c.bx.nx<=off+s.s.length then { c with ended:=true,fend:=off+s.s.length }else c)=d at h1;split
 ·have h2:Em d ({ d with over:=true }:Cn) 0 0:=.same _ _ rfl rfl rfl;exact(((h1.trans h2).trans0 (Cn.step_em { d with over:=true } now 6)).trans0 (.same _ _ rfl rfl rfl))
 exact h1
end
theorem Em.one (c:Cn):Em c c 1 1:=⟨rfl,id,by omega⟩
theorem fF (c:Cn)(now e er:Int):Em c (c.finish now e er) 0 0:=(Cn.step_em c now e).trans0 (.same _ _ rfl rfl rfl)
theorem dw (c:Cn):Em c c.ackNow 0 0:=.same _ _ rfl rfl rfl
theorem mX {c:Cn}(ok:c.Ok)(now:Int)(s:Sg)(off ack:Int):Em c (((c.acked now s ack).store now s off).finS now s off) 0 0 :=
 (((nr ok now s ack).trans (tv _ now s off)).trans (vO _ now s off)).mono (by omega) (by omega)
theorem pG {c:Cn}(ok:c.Ok){now:Int}(hn:aI now){s:Sg}(hs:s.Ok){off:Int}(ho: -2147483648<=off/\off<=2147483647):Em c (c.process now s off).1 (c.process now s off).2.length 1:=by
 have hd:=bH s.ak c.cf.iss;unfold Cn.process;dsimp only;split
 ·rename_i h2;have ht:=ok.tr2 (by omega);split
  ·exact Em.one c
  have o3:=ok.step hn ht 4;have h3:=Cn.step_em c now 4;split
  ·have o5:=o3.step hn (by rw[Cn.step_tries];exact ht) 5;exact(((h3.trans (Cn.step_em _ now 5)).trans (mX o5 now s off _)).trans (cU (o5.tail hn hs ho hd.2) hn)).mono (by omega) (by omega)
  exact((h3.trans (mX o3 now s off _)).trans (cU (o3.tail hn hs ho hd.2) hn)).mono (by omega) (by omega)
 split
 ·exact((dw c).trans (cU ok.ackNow hn)).mono (by omega) (by omega)
 exact((mX ok now s off _).trans (cU (ok.tail hn hs ho hd.2) hn)).mono (by omega) (by omega)
theorem tw {c:Cn}(ok:c.Ok){now:Int}(hn:aI now){s:Sg}(hs:s.Ok):Em c (c.stray now s).1 (c.stray now s).2.length 1:=by
 have hd:=bH s.ak c.cf.iss;unfold Cn.stray;dsimp only
 have h1:Cn.Ok (if cA c.st=true/\s.has=true/\s.syn=false/\c.una<=aD s.ak c.cf.iss/\aD s.ak c.cf.iss<=c.next then c.acked now s (aD s.ak c.cf.iss)else c):=by
  split
  ·exact(ok.acked hn hs (by omega)).1
  exact ok
 have e1:Em c (if cA c.st=true/\s.has=true/\s.syn=false/\c.una<=aD s.ak c.cf.iss/\aD s.ak c.cf.iss<=c.next then c.acked now s (aD s.ak c.cf.iss)else c) 0 0:=by
  split
  ·exact nr ok now s _
  exact .refl c
 generalize (if cA c.st=true/\s.has=true/\s.syn=false/\c.una<=aD s.ak c.cf.iss/\aD s.ak c.cf.iss<=c.next then c.acked now s (aD s.ak c.cf.iss)else c)=a at h1 e1|-
 have h2:Cn.Ok (if a.st=9/\s.fin=true then { a with per:=.aft now 60 }else a):=by
  split
  ·exact { h1 with per:=Al.aft_ok hn (by decide) (by decide) }
  exact h1
 have e2:Em a (if a.st=9/\s.fin=true then { a with per:=.aft now 60 }else a) 0 0:=by
  split
  ·exact .same _ _ rfl rfl rfl
  exact .refl a
 generalize (if a.st=9/\s.fin=true then { a with per:=.aft now 60 }else a)=b at h2 e2|-;split
 ·exact(((e1.trans e2).trans (dw b)).trans (cU h2.ackNow hn)).mono (by omega) (by omega)
 exact((e1.trans e2).trans (cU h2 hn)).mono (by omega) (by omega)
theorem tx {c:Cn}(ok:c.Ok){now:Int}(hn:aI now){s:Sg}(hs:s.Ok):Em c (c.greet now s).1 (c.greet now s).2.length 1:=by
 unfold Cn.greet;split
 ·split
  ·exact(Em.refl c).mono (by simp) (by omega)
  exact Em.one c
 split
 ·exact(fF c now 8 184).mono (by simp) (by omega)
 split
 ·exact(Em.refl c).mono (by simp) (by omega)
 rename_i hy;have hy:s.syn=true:=by simpa using hy
 have hm:=(ok.meet hs hy).tries0;have e0:Em c ({ c.meet s with tries:=0 }:Cn) 0 0:=.same _ _ rfl rfl rfl;have t0:({ c.meet s with tries:=0 }:Cn).tries<=12:=by show(0:Int)<=12;decide
 generalize ({ c.meet s with tries:=0 }:Cn)=d at hm e0 t0;dsimp only;split
 ·have h:=((e0.trans (Cn.step_em d now 2)).trans (Cn.synC_em _));exact⟨h.last,h.nl,by have:=h.pot;simp;omega⟩
 have o2:Cn.Ok { d with sc:=d.sc.acked 1 [],tm:=d.tm.acked now 1 }:=(hm.onSc (hm.sc.acked 1 [])).onTm (Tm.acked_fit hm.tm now 1)
 have e2:Em d { d with sc:=d.sc.acked 1 [],tm:=d.tm.acked now 1 } 0 0:=by
  obtain⟨h1,h2⟩:=hm.sc.free_ack 1 [];have hl:Cn.last { d with sc:=d.sc.acked 1 [],tm:=d.tm.acked now 1 }=d.last:=rfl;have hx:Cn.next { d with sc:=d.sc.acked 1 [],tm:=d.tm.acked now 1 }=d.next:=h2;exact⟨hl,fun h=>by rw[hl,hx];exact h,by unfold Cn.pot;rw[hl,hx];show _+(_+(d.sc.acked 1 []).free)<=_;omega⟩
 have t2:Cn.tries { d with sc:=d.sc.acked 1 [],tm:=d.tm.acked now 1 }<=12:=t0;generalize ({ d with sc:=d.sc.acked 1 [],tm:=d.tm.acked now 1 }:Cn)=e at o2 e2 t2;have o3:=(o2.step hn t2 3).onDl eE;have e3:Em (e.step now 3) ({ e.step now 3 with dl:=ex }:Cn) 0 0:=.same _ _ rfl rfl rfl;exact(((((e0.trans e2).trans (Cn.step_em e now 3)).trans e3).trans (dw _)).trans (cU o3.ackNow hn)).mono (by omega) (by omega)
theorem rP {c:Cn}(ok:c.Ok){now:Int}(hn:aI now){s:Sg}(hs:s.Ok):Em c (c.recvOk now s).1 (c.recvOk now s).2.length 1:=by
 have ho:=bH s.sq (bt c.irs 1);unfold Cn.recvOk;dsimp only;split
 ·exact(fF c now 8 181).mono (by simp) (by omega)
 split
 ·exact(Em.refl c).mono (by simp) (by omega)
 split
 ·exact tw ok hn hs
 split
 ·exact((dw c).trans (cU ok.ackNow hn)).mono (by omega) (by omega)
 split
 ·exact(Em.refl c).mono (by simp) (by omega)
 exact pG ok hn hs ho
theorem pH {c:Cn}(ok:c.Ok){now:Int}(hn:aI now){s:Sg}(hs:s.Ok):Em c (c.receive now s).1 (c.receive now s).2.length 1:=by
 unfold Cn.receive;split
 ·exact(Em.refl c).mono (by simp) (by omega)
 split
 ·exact(Em.refl c).mono (by simp) (by omega)
 split
 ·exact tx ok hn hs
 exact rP ok hn hs
theorem ns {c:Cn}(ok:c.Ok)(g:Cg)(m:Int):Em c { c with cg:=g,sc:=c.sc.timeout,mark:=m } 0 c.flight:=by
 have h0:=ok.sc.free_bd;have hl:Cn.last { c with cg:=g,sc:=c.sc.timeout,mark:=m }=c.last:=rfl;have hx:Cn.next { c with cg:=g,sc:=c.sc.timeout,mark:=m }=c.next:=rfl;have hf:=Sc.free_timeout c.sc;have hfl:c.flight=c.sc.next-c.sc.una:=rfl;exact⟨hl,fun h=>by rw[hl,hx];exact h,by unfold Cn.pot;rw[hl,hx];show _+(_+c.sc.timeout.free)<=_;omega⟩
theorem rQ {c:Cn}(ok:c.Ok):Em c c.expire.1 c.expire.2.length c.flight:=by
 have hu:=ok.una;have hf:c.flight=c.next-c.una:=rfl;have hun:c.unsent=max 0 (c.last-c.next):=rfl;unfold Cn.expire;split
 ·exact(ns ok _ _).mono (by simp) (by omega)
 split
 ·exact(Em.refl c).mono (by simp) (by omega)
 exact(lf ok (n:=max 1 (min (min c.mss (c.limit-c.next)) c.unsent)) (by omega) (by omega) (.inl (by omega))).mono (by simp) (by omega)
theorem kR {c:Cn}(ok:c.Ok){now:Int}(hn:aI now)(l:List Sg):Em c (c.tickEnd now l).1 (((c.tickEnd now l).2.length:Int)-l.length) 1:=by
 unfold Cn.tickEnd;dsimp only;have key:∀a:Cn,a.Ok->Em c a 0 0->Em c (a.push now).1 (((l++(a.push now).2).length:Int)-l.length) 1:=fun a o e=>(e.trans (cU o hn)).mono (by rw[List.length_append];omega) (by omega);split
 ·exact key _ ok.ackNow (dw c)
 exact key _ ok (.refl c)
theorem vP {c:Cn}(ok:c.Ok){now:Int}(hn:aI now):Em c (c.tick now).1 (c.tick now).2.length (1+c.flight):=by
 have hu:=ok.una;have hf:c.flight=c.next-c.una:=rfl;unfold Cn.tick;split
 ·exact(Em.refl c).mono (by simp) (by omega)
 rename_i h0;have ht:=ok.tr2 h0;have htr:=ok.tr;split
 ·exact(fF c now 9 0).mono (by simp) (by omega)
 split
 ·dsimp only;have e0:Em c ({ c with tries:=c.tries+1 }:Cn) 0 0:=.same _ _ rfl rfl rfl;split
  ·exact((e0.trans (fF _ now 9 182))).mono (by simp) (by omega)
  rename_i h12
  have hv:0<=c.tm.retr.backoff.value/\c.tm.retr.backoff.value<=1000:=by
   have h1:=c.tm.retr.backoff.base_bd;have h2:(0:Int)<=c.tm.retr.backoff.base*2 ^ c.tm.retr.backoff.backs.toNat:=Int.mul_nonneg (by omega) (Int.pow_nonneg (by decide));unfold Tm.value;omega
  have o1:Cn.Ok { c with tries:=c.tries+1,tm:=c.tm.retr.backoff,dl:=.aft now c.tm.retr.backoff.value } :=
   { ok with tr:=by have:=ok.tr;dsimp only;omega,tr2:=fun _=>by dsimp only;omega,tm:=Tm.backoff_fit (Tm.retr_fit ok.tm),dl:=Al.aft_ok hn hv.1 hv.2 }
  have e1:Em c ({ c with tries:=c.tries+1,tm:=c.tm.retr.backoff,dl:=.aft now c.tm.retr.backoff.value }:Cn) 0 0:=.same _ _ rfl rfl rfl;have f1:Cn.flight { c with tries:=c.tries+1,tm:=c.tm.retr.backoff,dl:=.aft now c.tm.retr.backoff.value }=c.flight:=rfl;split
  ·exact((e1.trans (rQ o1)).trans (kR o1.expire hn _)).mono (by omega) (by omega)
  have h:=e1.trans (Cn.synC_em _);exact⟨h.last,h.nl,by have:=h.pot;simp;omega⟩
 exact(kR ok hn []).mono (by simp) (by omega)
theorem vQ {c:Cn}(ok:c.Ok){now:Int}(hn:aI now)(n:Int):Em c (c.recv now n).1 (c.recv now n).2.length 1:=by
 unfold Cn.recv;split
 ·exact(Em.refl c).mono (by simp) (by omega)
 dsimp only;have o1:=ok.take n;have e1:Em c ({ c with bx:=c.bx.take n }:Cn) 0 0:=.same _ _ rfl rfl rfl;split
 ·exact e1.mono (by simp) (by omega)
 split
 ·exact e1.mono (by simp) (by omega)
 exact((e1.trans (dw _)).trans (cU o1.ackNow hn)).mono (by omega) (by omega)
theorem tz {c:Cn}(ok:c.Ok){now:Int}(hn:aI now):Em c (c.close now).1 (c.close now).2.length 1:=by
 unfold Cn.close;split
 ·exact(Em.refl c).mono (by simp) (by omega)
 rename_i h0;dsimp only;have o1:Cn.Ok { c with shut:=true }:={ ok with };have e1:Em c ({ c with shut:=true }:Cn) 0 0:=.same _ _ rfl rfl rfl;have t1:Cn.tries { c with shut:=true }<=12:=ok.tr2 (fun h=>h0 (.inl h));split
 ·exact(e1.trans (fF _ now 5 183)).mono (by simp) (by omega)
 split
 ·exact(e1.trans (cU o1 hn)).mono (by omega) (by omega)
 exact((e1.trans (Cn.step_em _ now 5)).trans (cU (o1.step hn t1 5) hn)).mono (by omega) (by omega)
theorem vR {c:Cn}(ok:c.Ok){now:Int}(hn:aI now)(s:List UInt8)(hb:c.last+s.length<=1073741824):(c.send now s).1.last=c.last+(if c.refusal≠0 then 0 else c.sendN s)/\(c.next<=c.last+1->(c.send now s).1.next<=(c.send now s).1.last+1)/\(c.send now s).2.length+(c.send now s).1.pot<=c.pot+2*s.length+1:=by
 unfold Cn.send;by_cases hr:c.refusal≠0
 ·rw[if_pos hr,if_pos hr];exact⟨by dsimp only;omega,id,by dsimp only;rw[List.length_nil];omega⟩
 rw[if_neg hr,if_neg hr];have h0:0<=c.sendN s/\c.sendN s<=s.length:=by unfold Cn.sendN Cn.space;split <;> omega
 have hl:Cn.last { c with held:=c.held++s.take (c.sendN s).toNat }=c.last+c.sendN s:=by
  unfold Cn.last;dsimp only;rw[List.length_append,List.length_take];omega
 have hx:Cn.next { c with held:=c.held++s.take (c.sendN s).toNat }=c.next:=rfl;have hp:Cn.pot { c with held:=c.held++s.take (c.sendN s).toNat }=c.pot+2*c.sendN s:=by unfold Cn.pot;rw[hl,hx];dsimp only;omega
 have hh:=hl;unfold Cn.last at hh;have o1:Cn.Ok { c with held:=c.held++s.take (c.sendN s).toNat }:={ ok with b1:=by rw[hl];omega };have:=cU o1 hn;exact⟨this.last.trans hl,fun h=>this.nl (by omega),by have:=this.pot;omega⟩
section
structure SdOk (s:Sd):Prop where
 c:s.c.Ok
 len:s.all.length<=1000
 s0:0<=s.sent
 sl:s.sent<=s.all.length
 last:s.c.last=1+s.sent
 nl:s.c.next<=s.c.last+1
theorem SdOk.pot {s:Sd}(h:SdOk s):0<=s.c.pot:=by
 have:=h.c.sc.free_bd;have:=h.nl;unfold Cn.pot;omega
theorem SdOk.flight {s:Sd}(h:SdOk s):s.c.flight<=1002:=by
 have:=h.c.una;have:=h.nl;have:=h.last;have:=h.sl;have:=h.len;have hf:s.c.flight=s.c.next-s.c.una:=rfl;omega
theorem SdOk.em {s:Sd}(h:SdOk s){d:Cn}(hd:d.Ok){k j:Int}(e:Em s.c d k j):SdOk { s with c:=d } :=
 ⟨hd,h.len,h.s0,h.sl,e.last.trans h.last,e.nl h.nl⟩
namespace Pr
def rem (p:Pr):Int:=max 0 ((p.fates.length:Int)-p.many)
def Q (p:Pr):Int:=p.wire.length+p.rem+p.a.c.pot+p.b.c.pot
def R (p:Pr):Int:=p.log.length+p.a.c.pot+p.b.c.pot
structure Fit (p:Pr)(q r:Int):Prop where
 a:SdOk p.a
 b:SdOk p.b
 now:0<=p.now/\p.now<=1000000
 wire:∀f∈p.wire,f.s.Ok
 due:∀f∈p.wire,0<=f.due/\f.due<=1000100
 log:∀f∈p.log,f.s.Ok
 q:p.Q<=q
 r:p.R<=r
variable {p : Pr} {q r : Int}
theorem Fit.mono (h:Fit p q r){q' r':Int}(hq:q<=q')(hr:r<=r'):Fit p q' r':=⟨h.a,h.b,h.now,h.wire,h.due,h.log,Int.le_trans h.q hq,Int.le_trans h.r hr⟩
theorem Fit.sd (h:Fit p q r)(i:Bool):SdOk (p.sd i):=by cases i;exact h.a;exact h.b
theorem Fit.in64 (h:Fit p q r):aI p.now:=by have:=h.now;unfold aI;omega
theorem Fit.wlen (h:Fit p q r):(p.wire.length:Int)<=q:=by
 have:=h.q;have:=h.a.pot;have:=h.b.pot;unfold Q rem at *;omega
theorem Fit.llen (h:Fit p q r):(p.log.length:Int)<=r:=by
 have:=h.r;have:=h.a.pot;have:=h.b.pot;unfold R at *;omega
theorem uA (p:Pr)(f:Fl):(p.addW f).length<=1\/((p.addW f).length=2/\p.many<p.fates.length):=by
 by_cases h:p.many<p.fates.length
 ·unfold addW
  (repeat' split) <;> simp[h]
 have e:p.fate=0:=by unfold fate;rw[List.getElem?_eq_none (by omega)]
 unfold addW;rw[if_pos e];exact .inl (by simp)
theorem vS (p:Pr){f:Fl}(h:f.s.Ok):∀g∈p.addW f,g.s.Ok:=by
 intro g hg;unfold addW at hg
 (repeat' split at hg) <;> simp at hg <;> rw[hg] <;> exact h
theorem vT (p:Pr):0<=p.fate/\p.fate<24:=by
 unfold fate;split
 ·exact aj _ 24 (by decide)
 exact⟨by decide,by decide⟩
theorem uB (p:Pr)(hn:0<=p.now/\p.now<=1000000){f:Fl}(h:0<=f.due/\f.due<=1000100):∀g∈p.addW f,0<=g.due/\g.due<=1000100:=by
 intro g hg;have hb:=vT p;unfold addW at hg
 (repeat' split at hg) <;> simp at hg <;> rw[hg]
 ·exact h
 ·exact h
 ·exact h
 dsimp only;omega
theorem uC (h:Fit p q r)(i:Bool){s:Sg}(hs:s.Ok):Fit (p.put1 i s) (q+1) (r+1):=by
 refine⟨h.a,h.b,h.now,?_,?_,?_,?_,?_⟩
 ·intro f hf
  rcases List.mem_append.1 hf with hf | hf
  ·exact h.wire f hf
  exact vS p (show(p.fl i s).s.Ok from hs) f hf
 ·intro f hf
  rcases List.mem_append.1 hf with hf | hf
  ·exact h.due f hf
  exact uB p h.now (f:=p.fl i s) (by have:=h.now;unfold fl;dsimp only;omega) f hf
 ·intro f hf
  rcases List.mem_append.1 hf with hf | hf
  ·exact h.log f hf
  rw[List.mem_singleton.1 hf];exact hs
 ·have hq:=h.q;have hl:=uA p (p.fl i s);unfold Q rem put1 at *;dsimp only;rw[List.length_append]
  rcases hl with hl | ⟨hl,hm⟩ <;> omega
 have hr:=h.r;unfold R put1 at *;dsimp only;rw[List.length_append,List.length_singleton];omega
theorem put_fit (i:Bool):∀(l:List Sg) {p:Pr} {q r:Int},Fit p q r->(∀x∈l,x.Ok)->Fit (p.put i l) (q+l.length) (r+l.length):=by
 intro l
 induction l with
 | nil=>intro p q r h _;exact h.mono (by simp) (by simp)
 | cons s l ih =>
  intro p q r h hl;have h1:=uC h i (hl s (by simp));exact(ih h1 (fun x hx=>hl x (by simp[hx]))).mono (by simp;omega) (by simp;omega)
theorem kT (i:Bool):∀(l:List Sg) (p:Pr),(p.put i l).a=p.a/\(p.put i l).b=p.b/\(p.put i l).now=p.now/\(p.put i l).fates=p.fates:=by
 intro l
 induction l with
 | nil=>intro p;exact⟨rfl,rfl,rfl,rfl⟩
 | cons s l ih=>intro p;exact ih (p.put1 i s)
theorem lh (h:Fit p q r)(i:Bool){d:Sd}(hd:SdOk d){j:Int}(hp:d.c.pot<=(p.sd i).c.pot+j):Fit (p.setSd i d) (q+j) (r+j):=by
 have hq:=h.q;have hr:=h.r
 cases i with
 | false =>
  have hp':d.c.pot<=p.a.c.pot+j:=hp;refine⟨hd,h.b,h.now,h.wire,h.due,h.log,?_,?_⟩
  ·unfold Q rem setSd at *;dsimp only;omega
  unfold R setSd at *;dsimp only;omega
 | true =>
  have hp':d.c.pot<=p.b.c.pot+j:=hp;refine⟨h.a,hd,h.now,h.wire,h.due,h.log,?_,?_⟩
  ·unfold Q rem setSd at *;dsimp only;omega
  unfold R setSd at *;dsimp only;omega
theorem ip (h:Fit p q r)(i:Bool){d:Sd}{l:List Sg}(hd:SdOk d)(hl:∀x∈l,x.Ok){j:Int}(hp:l.length+d.c.pot<=(p.sd i).c.pot+j):Fit ((p.setSd i d).put i l) (q+j) (r+j) :=
 (put_fit i l (lh h i hd (j:=j-l.length) (by omega)) hl).mono (by omega) (by omega)
theorem recv1_fit (h:Fit p q r){f:Fl}(hf:f.s.Ok):Fit (p.recv1 f) (q+1) (r+1):=by
 have hs:=h.sd f.dst;have e:=pH hs.c h.in64 hf;exact ip h f.dst (hs.em (hs.c.receive h.in64 hf) e) (hs.c.receive_sg h.in64 hf) e.pot
theorem fold_fit:∀(l:List Fl) {p:Pr} {q r:Int},Fit p q r->(∀f∈l,f.s.Ok)->Fit (l.foldl recv1 p) (q+l.length) (r+l.length):=by
 intro l
 induction l with
 | nil=>intro p q r h _;exact h.mono (by simp) (by simp)
 | cons f l ih =>
  intro p q r h hl;exact(ih (recv1_fit h (hl f (by simp))) (fun x hx=>hl x (by simp[hx]))).mono (by simp;omega) (by simp;omega)
theorem iq {α:Type}(P:α->Bool):∀l:List α,(l.filter P).length+(l.filter fun x=> !P x).length=l.length:=by
 intro l
 induction l with
 | nil=>rfl
 | cons x l ih=>by_cases h:P x=true <;> simp[h] <;> omega
theorem px (p:Pr):p.due.length+p.rest.length=p.wire.length:=by
 have h1:=iq (readyB p.now) p.wire;have h2:=iq (lateB p.now (due1 p.now p.wire)) (left1 p.now p.wire);unfold due rest;rw[List.length_append];have e1:(due1 p.now p.wire).length=(p.wire.filter (readyB p.now)).length:=rfl;have e2:(left1 p.now p.wire).length=(p.wire.filter fun x=> !readyB p.now x).length:=rfl;omega
theorem due_mem {p:Pr}{f:Fl}(h:f∈p.due):f∈p.wire:=by
 unfold due due1 left1 at h
 rcases List.mem_append.1 h with h | h
 ·exact(List.mem_filter.1 h).1
 exact(List.mem_filter.1 (List.mem_filter.1 h).1).1
theorem kU {p:Pr}{f:Fl}(h:f∈p.rest):f∈p.wire:=by
 unfold rest left1 at h;exact(List.mem_filter.1 (List.mem_filter.1 h).1).1
theorem rest_fit (h:Fit p q r):Fit { p with wire:=p.rest } (q-p.due.length) r :=
 ⟨h.a,h.b,h.now,fun f hf=>h.wire f (kU hf),fun f hf=>h.due f (kU hf),h.log,by have:=h.q;have:=px p;unfold Q rem at *;dsimp only;omega,h.r⟩
theorem deliver_fit (h:Fit p q r):Fit p.deliver q (r+q):=by
 have h1:=fold_fit p.due (rest_fit h) (fun f hf=>h.wire f (due_mem hf));have h2:=h.wlen;have h3:=px p;exact h1.mono (by omega) (by omega)
theorem tick1_fit (h:Fit p q r)(i:Bool):Fit (p.tick1 i) (q+1003) (r+1003):=by
 have hs:=h.sd i;have e:=vP hs.c h.in64;have hf:=hs.flight;exact ip h i (hs.em (hs.c.tick h.in64) e) (hs.c.tick_sg h.in64) (by have:=e.pot;dsimp only;omega)
theorem fold_now:∀(l:List Fl) (p:Pr),(l.foldl recv1 p).now=p.now/\(l.foldl recv1 p).fates=p.fates/\(l.foldl recv1 p).a.all=p.a.all/\(l.foldl recv1 p).b.all=p.b.all:=by
 intro l
 induction l with
 | nil=>intro p;exact⟨rfl,rfl,rfl,rfl⟩
 | cons f l ih =>
  intro p;have h:=ih (p.recv1 f);have k:=kT f.dst ((p.sd f.dst).c.receive p.now f.s).2 (p.setC f.dst ((p.sd f.dst).c.receive p.now f.s).1);have e:p.recv1 f=(p.setC f.dst ((p.sd f.dst).c.receive p.now f.s).1).put f.dst ((p.sd f.dst).c.receive p.now f.s).2:=rfl;rw[List.foldl_cons,h.1,h.2.1,h.2.2.1,h.2.2.2,e,k.1,k.2.1,k.2.2.1,k.2.2.2]
  cases f.dst <;> exact⟨rfl,rfl,rfl,rfl⟩
theorem uD (p:Pr):p.tick.now=p.now+1/\p.tick.fates=p.fates/\p.tick.a.all=p.a.all/\p.tick.b.all=p.b.all:=by
 have h:=fold_now ({ p with now:=p.now+1 }:Pr).due { ({ p with now:=p.now+1 }:Pr)with wire:=({ p with now:=p.now+1 }:Pr).rest }
 have key:∀(x:Pr) (i:Bool),(x.tick1 i).now=x.now/\(x.tick1 i).fates=x.fates/\(x.tick1 i).a.all=x.a.all/\(x.tick1 i).b.all=x.b.all:=by
  intro x i;have k:=kT i ((x.sd i).c.tick x.now).2 (x.setC i ((x.sd i).c.tick x.now).1);have e:x.tick1 i=(x.setC i ((x.sd i).c.tick x.now).1).put i ((x.sd i).c.tick x.now).2:=rfl;rw[e,k.1,k.2.1,k.2.2.1,k.2.2.2]
  cases i <;> exact⟨rfl,rfl,rfl,rfl⟩
 have k1:=key ({ p with now:=p.now+1 }:Pr).deliver false;have k2:=key (({ p with now:=p.now+1 }:Pr).deliver.tick1 false) true;have e:p.tick=(({ p with now:=p.now+1 }:Pr).deliver.tick1 false).tick1 true:=rfl;have d:({ p with now:=p.now+1 }:Pr).deliver=({ p with now:=p.now+1 }:Pr).due.foldl recv1 { ({ p with now:=p.now+1 }:Pr)with wire:=({ p with now:=p.now+1 }:Pr).rest }:=rfl;rw[e,k2.1,k2.2.1,k2.2.2.1,k2.2.2.2,k1.1,k1.2.1,k1.2.2.1,k1.2.2.2,d,h.1,h.2.1,h.2.2.1,h.2.2.2];exact⟨rfl,rfl,rfl,rfl⟩
theorem uE (h:Fit p q r)(hn:p.now+1<=1000000):Fit p.tick (q+2010) (r+q+2010):=by
 have h0:Fit { p with now:=p.now+1 } q r:=⟨h.a,h.b,⟨by have:=h.now;dsimp only;omega,hn⟩,h.wire,h.due,h.log,h.q,h.r⟩;exact(tick1_fit (tick1_fit (deliver_fit h0) false) true).mono (by omega) (by omega)
theorem bytes_len {s:Sd}(h:SdOk s)(n:Int):((bytes s n).length:Int)<=s.all.length-s.sent:=by
 have:=h.s0;have:=h.sl;unfold bytes;rw[List.length_drop,List.length_take];omega
theorem send_fit (h:Fit p q r)(i:Bool)(n:Int):Fit (p.send i n) (q+2010) (r+2010):=by
 have hs:=h.sd i;unfold send;dsimp only;split
 ·exact h.mono (by omega) (by omega)
 split
 ·exact h.mono (by omega) (by omega)
 rename_i hr;have hr:¬(p.sd i).c.refusal≠0:=hr;have hb:=bytes_len hs n;have hl:=hs.len;have hsl:=hs.sl;have ac:=hs.last;have h0:=hs.s0;obtain⟨e1,e2,e3⟩:=vR hs.c h.in64 (bytes (p.sd i) n) (by omega);rw[if_neg hr]at e1;have cC:0<=(p.sd i).c.sendN (bytes (p.sd i) n)/\(p.sd i).c.sendN (bytes (p.sd i) n)<=(bytes (p.sd i) n).length:=by unfold Cn.sendN Cn.space;split <;> omega
 exact(ip h i (d:={ p.sd i with c:=((p.sd i).c.send p.now (bytes (p.sd i) n)).1,sent:=(p.sd i).sent+(p.sd i).c.sendN (bytes (p.sd i) n) })
  ⟨hs.c.send h.in64 _ (by omega),hl,by dsimp only;omega,by dsimp only;omega,by dsimp only;omega,e2 hs.nl⟩ (hs.c.send_sg h.in64 _ (by omega)) (j:=2010) (by dsimp only;omega))
theorem recv_fit (h:Fit p q r)(i:Bool)(n:Int):Fit (p.recv i n) (q+2010) (r+2010):=by
 have hs:=h.sd i;have e:=vQ hs.c h.in64 n;have ho:=hs.em (hs.c.recv h.in64 n) e;unfold recv;dsimp only;split
 ·exact(lh h i (j:=1) ho (by have:=e.pot;dsimp only;omega)).mono (by omega) (by omega)
 exact(ip h i (j:=1) (d:={ p.sd i with c:=((p.sd i).c.recv p.now n).1,got:=(p.sd i).got++(p.sd i).c.bx.takeS n,fin:=(p.sd i).fin||(p.sd i).c.recvE n }) ⟨ho.c,ho.len,ho.s0,ho.sl,ho.last,ho.nl⟩ (hs.c.recv_sg h.in64 n) e.pot).mono (by omega) (by omega)
theorem shut_fit (h:Fit p q r)(i:Bool):Fit (p.shut i) (q+2010) (r+2010):=by
 have hs:=h.sd i;have e:=tz hs.c h.in64;have ho:=hs.em (hs.c.close h.in64) e;unfold shut;dsimp only;split
 ·exact h.mono (by omega) (by omega)
 split
 ·exact h.mono (by omega) (by omega)
 exact(ip h i (j:=1) (d:={ p.sd i with c:=((p.sd i).c.close p.now).1,closed:=true }) ⟨ho.c,ho.len,ho.s0,ho.sl,ho.last,ho.nl⟩ (hs.c.close_sg h.in64) e.pot).mono (by omega) (by omega)
def xc (p:Pr)(n:Int):Prop:=Fit p (3000*(n+1)) (15003000*(n+1))/\p.now<=n
theorem xc.tick {n:Int}(h:xc p n)(h0:0<=n)(hn:n+1<=5000):xc p.tick (n+1) :=
 ⟨(uE h.1 (by have:=h.2;omega)).mono (by omega) (by omega),by rw[(uD p).1];have:=h.2;omega⟩
end Pr
end
section
set_option maxHeartbeats 8000000
set_option maxRecDepth 100000
open Go.RowKit Go.Shelf
theorem nt (f:Fp) (c:Cn) (w:World) (h:CnAt f c w) (ok:c.Ok) :
  Calls Tryz.prog 76 #[f.C] w (dO f w c.expire.2 c.expire.1):=by
 have hgt:=h.gl.top;have HO:=hid ok;have HC:=hid h;have HX:=hid (ChgF.refl f w);have hfl:=ok.flight;have hu:=ok.una;obtain⟨hu0,hu1,hu2⟩:=hu;have hun:=ok.unsent;have hlm:=ok.lim;have cF:=ok.mss;clear h ok;by_cases hp:0<c.flight
 ·have HE:=hid (show c.expire=({ c with cg:=c.cg.timeout c.flight,sc:=c.sc.timeout,mark:=c.next },[]) by unfold Cn.expire;rw[if_pos hp]);rw[HE.o]
  go_enter Tryz.func76,Tryz.ntmps76
  go_wp2_with fail;refine(cr f c _ HC.o HO.sc).mono ?_;rintro e w1⟨rfl,hb⟩;replace HX:=hid (HX.trans (.ofB hb));replace HC:=hid (HC.below hb);clear hb;have hd:decide (0<c.flight)=true:=decide_eq_true hp;have c2:=HC.cell 2 f.G rfl;go_wp2_with fail;refine bC (fun W:World=>W.cell? ⟨f.C,2,none⟩=some (f.G:Y)) (c2) fun hZ=>?_;have hb:=(Below.refl w1.heap.size w1).drew;replace HX:=hid (HX.trans (.ofB hb));replace HC:=hid (HC.below hb);clear hb c2;generalize w1.drew=w2 at HC HX hZ|-;refine aB 0 1 2 3 ?_;refine aB 4 5 6 7 ?_;refine aK 9 10 ?_;refine aO 11 ?_;refine aX 8 fun Kq hKq=> ?_;go_simp;refine(cr f c w2 HC.o HO.sc).mono ?_;rintro e w3⟨rfl,hb⟩;replace HX:=hid (HX.trans (.ofB hb));replace HC:=hid (HC.below hb);clear hb;go_simp;refine hKq.out _ _ (HC.cell 2 _ rfl) ?_;clear hKq Kq hZ;refine fun hZ=>aT ?_;refine aX 12 fun Kq hKq=> ?_;go_simp;refine(aU f c w3 HC.o).mono ?_;rintro e w4⟨rfl,hb⟩;replace HX:=hid (HX.trans (.ofB hb));replace HC:=hid (HC.below hb);clear hb;go_simp;refine hKq.out _ _ (HC.cell 2 _ rfl) ?_;clear hKq Kq hZ;refine fun hZ=>aT ?_;refine aX 13 fun Kq hKq=> ?_;go_simp;refine(nW f.G c.cg c.flight c.next (by unfold aI;omega) HO.cg w4 HC.cg).mono ?_;rintro e w5⟨rfl,hs,hc⟩;replace HX:=hid (HX.trans (.ofG hc));have a3:=hid (HC.onG hs hc);clear hs hc HC;go_simp;refine hKq.out _ _ (a3.cell 2 _ rfl) ?_;clear hKq Kq hZ;refine fun hZ=>aT ?_;refine az ?_ _;clear hZ;have c0:=a3.cell 0 f.S rfl;go_wp2_with fail;refine(kw f.S (f.S+1) c.sc _ a3.sc).mono ?_;rintro e w6⟨rfl,hs,hc⟩;replace HX:=hid (HX.trans (.ofS hc));have a1:=hid (a3.onS hs hc);clear hs hc a3 c0;go_wp2_with fail;refine(aU f _ _ a1.o).mono ?_;rintro e w7⟨rfl,hb⟩;replace HX:=hid (HX.trans (.ofB hb));replace a1:=hid (a1.below hb);clear hb;have c10:=a1.cell 10 c.mark rfl;have f10:=a1.free 10;go_wp2;go_ret;exact⟨_,rfl,aJ.nil _ _,a1.set 10 _ _ rfl rfl rfl rfl rfl,HX.trans (.ofC ((Chg.refl _ _).setCell 10 _))⟩
 by_cases hz:c.unsent=0
 ·have HE:=hid (show c.expire=(c,[]) by unfold Cn.expire;rw[if_neg hp,if_pos hz]);rw[HE.o];have hd:decide (0<c.flight)=false:=decide_eq_false hp
  go_enter Tryz.func76,Tryz.ntmps76
  go_wp2_with fail;refine(cr f c _ HC.o HO.sc).mono ?_;rintro e w1⟨rfl,hb⟩;replace HX:=hid (HX.trans (.ofB hb));replace HC:=hid (HC.below hb);clear hb;go_wp2_with fail;refine(eW f c _ HC.o HO.sc (im HO.o) (io HO.o)).mono ?_;rintro e w2⟨rfl,hb⟩;replace HX:=hid (HX.trans (.ofB hb));replace HC:=hid (HC.below hb);clear hb;rw[hz];go_wp2;go_ret;exact⟨_,rfl,aJ.nil _ _,HC.o,HX.o⟩
 obtain⟨n,hn⟩:∃n,n=max 1 (min (min c.mss (c.limit-c.next)) c.unsent):=⟨_,rfl⟩;have HE:=hid (show c.expire=(c.freshC n,[c.freshS n]) by unfold Cn.expire;rw[if_neg hp,if_neg hz,<-hn]);rw[HE.o];have ba:=hid hn;have hnb:0<=n/\n<=1000:=by omega
 clear hn;have hd:decide (0<c.flight)=false:=decide_eq_false hp
 go_enter Tryz.func76,Tryz.ntmps76
 go_wp2_with fail;refine(cr f c _ HC.o HO.sc).mono ?_;rintro e w1⟨rfl,hb⟩;replace HX:=hid (HX.trans (.ofB hb));replace HC:=hid (HC.below hb);clear hb;have cL:(c.unsent==0)=false:=beq_eq_false_iff_ne.2 hz;go_wp2_with fail;refine(eW f c _ HC.o HO.sc (im HO.o) (io HO.o)).mono ?_;rintro e w2⟨rfl,hb⟩;replace HX:=hid (HX.trans (.ofB hb));replace HC:=hid (HC.below hb);clear hb;have c7:=HC.cell 7 c.mss rfl;have c5:=HC.cell 5 c.limit rfl;go_wp2_with fail;refine bC (fun W:World=>W.cell? ⟨f.C,7,none⟩=some (c.mss:Y)/\W.cell? ⟨f.C,5,none⟩=some (c.limit:Y)) (⟨c7,c5⟩) fun hZ=>?_;have hb:=(Below.refl w2.heap.size w2).drew;replace HX:=hid (HX.trans (.ofB hb));replace HC:=hid (HC.below hb);clear hb c7 c5;generalize w2.drew=w3 at HC HX hZ|-;refine aB 0 1 2 3 ?_;refine aB 4 5 6 7 ?_;refine aB 8 9 10 11 ?_;refine aK 12 13 ?_;refine aO 16 ?_;refine aX 14 fun Kq hKq=> ?_;go_simp;refine(aU f c w3 HC.o).mono ?_;rintro e w4⟨rfl,hb⟩;replace HX:=hid (HX.trans (.ofB hb));replace HC:=hid (HC.below hb);clear hb;go_simp;refine hKq.out _ _ (⟨HC.cell 7 c.mss rfl,HC.cell 5 c.limit rfl⟩) ?_;clear hKq Kq hZ;refine fun hZ=>aT ?_;have hwr:IntKind.i64.wrap (c.limit-c.next)=c.limit-c.next:=IntWalk.i64_in _ (by omega);refine aO 15 (v:=.int .i64 (c.limit-c.next)) ?_ (hy:=by intro w hSw;(obtain⟨z0,z1⟩:=hSw);go_simp;(try exact hwr));clear hwr;refine aO 17 (v:=.int .i64 (min (min c.mss (c.limit-c.next)) c.unsent)) ?_ (hy:=by intro w hSw;(obtain⟨z0,z1⟩:=hSw);go_simp;(try (split <;> (try split) <;> omega)));obtain⟨n1,hn1⟩:∃n1,n1=min (min c.mss (c.limit-c.next)) c.unsent:=⟨_,rfl⟩;rw[<-hn1];have b0:n=max 1 n1:=by rw[ba.o,hn1]
 refine aO 18 (v:=.int .i64 n) ?_ (hy:=by intro w hSw;(obtain⟨z0,z1⟩:=hSw);go_simp;(try (rw[b0];first | (split <;> omega) | omega)));clear hn1 b0;refine aX 19 fun Kq hKq=> ?_;go_simp;refine(iL f c n w4 HC.o HO.o (by omega)).mono ?_;rintro e w5⟨a,cap,rfl,hbi,hc,hch⟩;replace HX:=hid (HX.trans hch);have a3:=hid hc;have ad:=hid hbi;clear hc hch hbi HC;unfold cw;go_simp;refine hKq.out _ _ (⟨a3.cell 7 c.mss rfl,a3.cell 5 c.limit rfl⟩) ?_;clear hKq Kq hZ;refine fun hZ=>aT ?_;have a4:=(Below.refl w5.heap.size w5).alloc (Nat.le_refl _) (.cells (aW (c.freshS n,a,cap)).toArray 43);have HN:=hid (bX (aQ.new w5 (c.freshS n,a,cap)));have a1:=hid (a3.below a4);refine aX 20 fun Kq hKq=> ?_;go_simp;refine hKq.out _ _ ((show(w5.alloc (.cells (aW (c.freshS n,a,cap)).toArray 43)).cell? ⟨f.C,7,none⟩=some (c.mss:Y)/\(w5.alloc (.cells (aW (c.freshS n,a,cap)).toArray 43)).cell? ⟨f.C,5,none⟩=some (c.limit:Y)from⟨a1.cell 7 c.mss rfl,a1.cell 5 c.limit rfl⟩)) ?_;clear hKq Kq hZ;refine fun hZ=>aT ?_;change wpAnyH _ _ _ _ _ _ _ _ (w5.alloc (.cells (aW (c.freshS n,a,cap)).toArray 43));replace HX:=hid (HX.trans (.ofB a4));replace ad:=hid (ad.keep a4.size (.below a4));clear a4 a3;generalize w5.heap.size=NB at HN|-;generalize w5.alloc (.cells (aW (c.freshS n,a,cap)).toArray 43)=w6 at HN a1 HX ad hZ|-;refine aX 21 fun Kq hKq=> ?_;go_simp;change Calls _ _ #[Value.slice none 0 0,Value.slice (some ⟨NB,0,none⟩) [((c.freshS n,a,cap):bp)].length 1] _ _;refine(bs w6 w.heap.size _ [] (bm.nil _ _) NB 0 1 [(c.freshS n,a,cap)] HN.o (fun y hy=>by rw[List.mem_singleton.1 hy];exact ad.o) (by simp) HX.size).mono ?_;rintro e w8⟨v',rfl,h1,h2,-⟩;have aF:=hid (a1.grown h2 (fun k e=>by cases e));have a0:=hid (HX.grown h2 (fun k e=>by cases e));have HL:=hid (show aJ w8 w.heap.size v' [c.freshS n]from⟨_,rfl,h1⟩);clear h1 h2;go_simp;refine hKq.out _ _ ⟨aF.cell 7 c.mss rfl,aF.cell 5 c.limit rfl⟩ ?_;clear hKq Kq hZ;refine fun hZ=>aT ?_;refine aO 22 ?_;refine az ?_ _;clear hZ;go_wp2;go_ret;exact⟨_,rfl,HL.o,aF.o,a0.o⟩
end
section
set_option maxHeartbeats 8000000
set_option maxRecDepth 100000
open Go.RowKit Go.Shelf
structure Lw (f:Fp)(w0:World)(v:Value)(L:List Sg)(c:Cn)(W:World):Prop where
 cn:CnAt f c W
 ch:ChgF f w0 W
 own:aJ W w0.heap.size v L
namespace Lw
variable {f : Fp} {c d : Cn} {w0 W W' : World} {v : Value} {L : List Sg}
theorem start (h:CnAt f c W):Lw f W (.slice none 0 0) [] c W:=⟨h,.refl _ _,.nil _ _⟩
theorem bel (h:Lw f w0 v L c W)(hb:Below W.heap.size W W'):Lw f w0 v L c W':=⟨h.cn.below hb,h.ch.trans (.ofB hb),h.own.below hb⟩
theorem call (h:Lw f w0 v L c W)(hc:CnAt f d W')(hch:ChgF f W W'):Lw f w0 v L d W':=⟨hc,h.ch.trans hch,h.own.chgF h.cn hch⟩
end Lw
theorem aJ.ty {w:World}{base:Nat}{v:Value}{L:List Sg}(h:aJ w base v L):∀k,v.ownBlock=some k->cu w k 43:=by
 obtain⟨M,e,h⟩:=h;exact h.ty
theorem aJ.lo {w:World}{base:Nat}{v:Value}{L:List Sg}(h:aJ w base v L):∀k,v.ownBlock=some k->base<=k:=by
 obtain⟨M,e,h⟩:=h;exact fun k e=>(h.lt k e).1
theorem aJ.low {w:World}{base b':Nat}{v:Value}{L:List Sg}(h:aJ w base v L)(hb:b'<=base):aJ w b' v L:=by
 obtain⟨M,e,h⟩:=h;exact⟨M,e,h.mono hb⟩
def xW (w:World)(base:Nat)(v:Value)(L:List Sg)(e:Ending)(w':World):Prop:=∃v',e= .returned v'/\aJ w' base v' L/\w.grownBy w' v.ownBlock
theorem fG (w:World)(base b2:Nat)(v v2:Value)(L M:List Sg)(h:aJ w base v L)(h2:aJ w b2 v2 M)(hL:L.length+M.length<=1300000000000)(hbase:base<=w.heap.size) :
  Calls Tryz.prog 58 #[v,v2] w (xW w base v (L++M)):=by
 obtain⟨L1,rfl,h⟩:=h;obtain⟨M1,rfl,h2⟩:=h2;rw[List.length_map,List.length_map]at hL;by_cases hm:0<M1.length
 ·obtain⟨g,cap,rfl,hb1,hb2,hcap,hcs⟩:=h2.cells hm;refine(bs w base v L1 h g 0 cap M1 hcs h2.2 hL hbase).mono ?_;rintro e w' ⟨v',rfl,h3,h4,-⟩;exact⟨v',rfl,⟨L1++M1,by rw[List.map_append],h3⟩,h4⟩
 obtain rfl:M1=[]:=List.eq_nil_of_length_eq_zero (by omega);obtain⟨a,cap,rfl,-,-⟩:=h2.val;refine(rH w base v L1 h a cap).mono ?_;rintro e w' ⟨rfl,rfl⟩;exact⟨v,rfl,⟨L1,by simp,h⟩,⟨rfl,rfl,rfl,Nat.le_refl _,fun _ _ _=>rfl⟩⟩
theorem fH {c:Cn}(ok:c.Ok)(now:Int):(c.push now).2.length<=1250000000001:=by
 unfold Cn.push;split
 ·simp
 dsimp only
 have h1:(if eh c.st=true then c.pushD now else(c,[])).2.length<=1250000000000:=by
  split
  ·exact le ok now
  simp
 generalize (if eh c.st=true then c.pushD now else(c,[]))=a at h1|-;unfold Cn.pushA;split
 ·rw[List.length_append,List.length_singleton];omega
 dsimp only;omega
theorem pI (c:Cn):c.expire.2.length<=1:=by
 unfold Cn.expire;split
 ·simp
 split <;> simp
def Cn.try1 (c:Cn):Cn:={ c with tries:=c.tries+1 }
def Cn.back (c:Cn)(now:Int):Cn:={ c with tries:=c.tries+1,tm:=c.tm.retr.backoff,dl:=.aft now c.tm.retr.backoff.value }
theorem Cn.tick_eq (c:Cn)(now:Int):c.tick now =
 if c.st=0 then(c,[])
 else if c.st=9/\c.per.due now=true then(c.finish now 9 0,[])
 else if c.dl.due now=true then(if 12<c.tries+1 then(c.try1.finish now 9 182,[])else if cA c.st=true then(c.back now).expire.1.tickEnd now (c.back now).expire.2 else((c.back now).synC,[(c.back now).synS]))
 else c.tickEnd now []:=rfl
theorem Cn.tickEnd_eq (c:Cn)(now:Int)(l:List Sg):c.tickEnd now l=(((if c.pend=1/\c.ackT.due now=true then c.ackNow else c).push now).1,l++((if c.pend=1/\c.ackT.due now=true then c.ackNow else c).push now).2):=rfl
theorem Cn.Ok.back {c:Cn}(h:c.Ok){now:Int}(hn:aI now)(ht:¬12<c.tries+1):(c.back now).Ok:=by
 have hv:0<=c.tm.retr.backoff.value/\c.tm.retr.backoff.value<=1000:=by
  have h1:=c.tm.retr.backoff.base_bd;have h2:(0:Int)<=c.tm.retr.backoff.base*2 ^ c.tm.retr.backoff.backs.toNat:=Int.mul_nonneg (by omega) (Int.pow_nonneg (by decide));unfold Tm.value;omega
 exact { h with tr:=by have:=h.tr;show 0<=c.tries+1/\c.tries+1<=13;omega,tr2:=fun _=>by show c.tries+1<=12;omega,tm:=Tm.backoff_fit (Tm.retr_fit h.tm),dl:=Al.aft_ok hn hv.1 hv.2 }
theorem li (f:Fp) (c:Cn) (now:Int) (w:World) (h:CnAt f c w) (ok:c.Ok) (hn:aI now) :
  Calls Tryz.prog 37 #[f.C,now] w (dO f w (c.tick now).2 (c.tick now).1):=by
 have HN:=hid hn;have hgt:=h.gl.top;have hlt:=h.lt;have HO:=hid ok;have HS:=hid (Lw.start h);have hst:=ok.tr;obtain⟨bb,bc⟩:=hst;clear h ok hn;obtain⟨R,hR⟩:∃R,R=c.tick now:=⟨_,rfl⟩;rw[<-hR];have HR:=hid (hR.trans (Cn.tick_eq c now));clear hR
 go_enter Tryz.func37,Tryz.ntmps37
 go_wp2_with fail;refine(bV f c _ HS.cn).mono ?_;rintro e w1⟨rfl,hb⟩;replace HS:=hid (HS.bel hb);clear hb;by_cases h0:c.st=0
 ·have b3:=hid (HR.trans (if_pos h0));replace HR:=b3;clear b3;have hd0:decide (c.st=0)=true:=decide_eq_true h0;clear h0;go_wp2;go_ret;exact⟨_,rfl,by rw[HR.o];exact aJ.nil _ _,by rw[HR.o];exact HS.cn,HS.ch⟩
 have H0:=hid h0;have hd0:decide (c.st=0)=false:=decide_eq_false h0;clear h0;replace HR:=hid (HR.trans (by rw[if_neg H0.o]));have aa:=HS.cn.cell 28 c.st rfl;by_cases h9:c.st=9
 focus
  have H9:=hid h9;rw[h9]at aa;clear h9;have bd:=HS.cn.cell 34 c.per.set rfl;have be:=HS.cn.cell 35 c.per.since rfl;have bn:=HS.cn.cell 36 c.per.ticks rfl;go_wp2_with fail;refine(ig c.per now _ HN.o HO.per.1 HO.per.2).mono ?_;rintro e w2⟨rfl,hb⟩;replace HS:=hid (HS.bel hb);clear hb;clear bd be bn aa;by_cases hq:c.per.due now=true
  ·have HQ:=hid hq;have a5:=hq;clear hq;replace HR:=hid (HR.trans (by rw[if_pos ⟨H9.o,HQ.o⟩]));go_wp2_with fail;refine(db f c now 9 0 _ HS.cn HO.st (by decide)).mono ?_;rintro e w9⟨rfl,hc,hch⟩;replace HS:=hid (HS.call hc hch);clear hc hch;go_wp2;go_ret;exact⟨_,rfl,by rw[HR.o];exact aJ.nil _ _,by rw[HR.o];exact HS.cn,HS.ch⟩
  have HQ:=hid hq;have a5:c.per.due now=false:=by simpa using hq
  clear hq;replace HR:=hid (HR.trans (by rw[if_neg (fun h=>HQ.o h.2)]))
 rotate_left 1
 focus
  have H9:=hid h9;have cM:(c.st==9)=false:=beq_eq_false_iff_ne.2 h9;clear h9;replace HR:=hid (HR.trans (by rw[if_neg (fun h=>H9.o h.1)]))
 all_goals
  have al:=HS.cn.cell 30 c.dl.set rfl;have am:=HS.cn.cell 31 c.dl.since rfl;have an:=HS.cn.cell 32 c.dl.ticks rfl;go_wp2_with fail;refine(ig c.dl now _ HN.o HO.dl.1 HO.dl.2).mono ?_;rintro e w2⟨rfl,hb⟩;replace HS:=hid (HS.bel hb);clear hb;clear al am an;by_cases hd:c.dl.due now=true
  ·have HD:=hid hd;have hdd:=hd;clear hd;have c1:=HS.cn.cell 1 f.T rfl;have b4:=HS.cn.cell 33 c.tries rfl;have b5:=HS.cn.free 33;have a6:=hid (HS.call (HS.cn.set 33 (c.tries+1:Int) c.try1 rfl rfl rfl rfl rfl) (.ofC ((Chg.refl _ _).setCell 33 _)));by_cases hv:12<c.tries+1
   ·have HV:=hid hv;replace HR:=hid (HR.trans (by rw[if_pos HD.o,if_pos HV.o]));have bo:decide (12<c.tries+1)=true:=decide_eq_true hv;clear hv;go_wp2_with fail;replace HS:=a6;clear a6 b4 b5 c1;refine(db f c.try1 now 9 182 _ HS.cn HO.st (by decide)).mono ?_;rintro e w9⟨rfl,hc,hch⟩;replace HS:=hid (HS.call hc hch);clear hc hch;go_wp2;go_ret;exact⟨_,rfl,by rw[HR.o];exact aJ.nil _ _,by rw[HR.o];exact HS.cn,HS.ch⟩
   have HV:=hid hv;have bo:decide (12<c.tries+1)=false:=decide_eq_false hv;have ab:=hid (HO.back HN.o hv);have b6:=hid HO.tm;clear hv;go_wp2_with fail;replace HS:=a6;clear a6 b4 b5 c1;refine(nC f.T c.try1.tm _ HS.cn.tm).mono ?_;rintro e w9⟨rfl,ht,hch⟩;replace HS:=hid (HS.call (HS.cn.onT ht hch) (.ofT hch));clear ht hch;have c1:=HS.cn.cell 1 f.T rfl;go_wp2_with fail;clear c1;refine(nE f.T c.tm.retr (Tm.retr_fit b6.o).1 _ HS.cn.tm).mono ?_;rintro e w9⟨rfl,ht,hch⟩;replace HS:=hid (HS.call (HS.cn.onT ht hch) (.ofT hch));clear ht hch;have c1:=HS.cn.cell 1 f.T rfl;go_wp2_with fail;clear c1;refine(gV f.T c.tm.retr.backoff (Tm.backoff_fit (Tm.retr_fit b6.o)).1 _ HS.cn.tm).mono ?_;rintro e w2⟨rfl,hb⟩;replace HS:=hid (HS.bel hb);clear hb;go_wp2_with fail;refine(co _ _ _).mono ?_;rintro e w3⟨rfl,hb⟩;replace HS:=hid (HS.bel hb);clear hb;have al:=HS.cn.cell 30 c.dl.set rfl;have am:=HS.cn.cell 31 c.dl.since rfl;have an:=HS.cn.cell 32 c.dl.ticks rfl;have b8:=HS.cn.free 30;have b9:=HS.cn.free 31;have f32:=HS.cn.free 32;have aa:=HS.cn.cell 28 c.st rfl;have a6:=hid (HS.call (((HS.cn.set 30 true { c.back now with dl:=⟨true,c.dl.since,c.dl.ticks⟩ } rfl rfl rfl rfl rfl).set 31 now { c.back now with dl:=⟨true,now,c.dl.ticks⟩ } rfl rfl rfl rfl rfl).set 32 c.tm.retr.backoff.value (c.back now) rfl rfl rfl rfl rfl) (.ofC ((((Chg.refl _ _).setCell 30 _).setCell 31 _).setCell 32 _)));by_cases hy:cA c.st=true
   ·have HY:=hid hy;have bu:eH c.st=true:=hy;clear hy;go_wp2_with fail;replace HS:=a6;clear a6 al am an b8 b9 f32 aa;refine(bW c.st _).mono ?_;rintro e w2⟨rfl,rfl⟩;replace HR:=hid (HR.trans (by rw[if_pos HD.o,if_neg (by have:=HV.o;omega),if_pos HY.o]));generalize c.back now=b at HS ab HR;go_wp2_with fail;refine(nt f b _ HS.cn ab.o).mono ?_;rintro e w9⟨vL,rfl,hl,hc,hch⟩;have av:=hid (show Lw f w vL b.expire.2 b.expire.1 w9 from⟨hc,HS.ch.trans hch,aJ.low hl HS.ch.size⟩);have a7:=hid ab.expire;have a9:=hid (show b.expire.2.length<=1 from pI b);clear hl hc hch HS;generalize b.expire.1=d at av a7 HR;generalize b.expire.2=L at av a9 HR;have HS:=av;clear av;have c18:=HS.cn.cell 18 d.pend rfl;by_cases hp:d.pend=1
    ·have HP:=hid hp;rw[hp]at c18;clear hp;have c19:=HS.cn.cell 19 d.ackT.set rfl;have c20:=HS.cn.cell 20 d.ackT.since rfl;have c21:=HS.cn.cell 21 d.ackT.ticks rfl;go_wp2_with fail;refine(ig d.ackT now _ HN.o a7.ackT.1 a7.ackT.2).mono ?_;rintro e w2⟨rfl,hb⟩;replace HS:=hid (HS.bel hb);clear hb;clear c19 c20 c21;by_cases hq:d.ackT.due now=true
     ·have HQ:=hid hq;have a5:=hq;clear hq;go_wp2_with fail;clear a5 c18;refine(br f d _ HS.cn).mono ?_;rintro e w9⟨rfl,hc,hch⟩;replace HS:=hid (HS.call hc hch);clear hc hch;go_wp2_with fail;refine(ai f d.ackNow now _ HS.cn a7.ackNow HN.o).mono ?_;rintro e w9⟨v2,rfl,hl2,hc,hch⟩;replace HS:=hid (HS.call hc hch);have a2:=hid hl2;clear hl2 hc hch;go_wp2_with fail;refine(fG _ w.heap.size _ _ _ L _ HS.own a2.o (by have:=fH a7.ackNow now;have:=a9.o;omega) HS.ch.size).mono ?_;rintro e wz⟨v',rfl,h1,h2⟩;have aF:=hid (HS.cn.grown h2 (fun k e=>⟨aJ.ty HS.own k e,Nat.le_trans hgt (aJ.lo HS.own k e)⟩));have a0:=hid (HS.ch.grown h2 (fun k e=>aJ.lo HS.own k e));have HL:=hid h1;clear h1 h2;go_wp2;go_ret;exact⟨_,rfl,by rw[HR.o,Cn.tickEnd_eq,if_pos ⟨HP.o,HQ.o⟩];exact HL.o,by rw[HR.o,Cn.tickEnd_eq,if_pos ⟨HP.o,HQ.o⟩];exact aF.o,a0.o⟩
     have a5:d.ackT.due now=false:=by simpa using hq
     have HQ:=hid a5;clear hq;go_wp2_with fail;refine(ai f d now _ HS.cn a7.o HN.o).mono ?_;rintro e w9⟨v2,rfl,hl2,hc,hch⟩;replace HS:=hid (HS.call hc hch);have a2:=hid hl2;clear hl2 hc hch;go_wp2_with fail;refine(fG _ w.heap.size _ _ _ L _ HS.own a2.o (by have:=fH a7.o now;have:=a9.o;omega) HS.ch.size).mono ?_;rintro e wz⟨v',rfl,h1,h2⟩;have aF:=hid (HS.cn.grown h2 (fun k e=>⟨aJ.ty HS.own k e,Nat.le_trans hgt (aJ.lo HS.own k e)⟩));have a0:=hid (HS.ch.grown h2 (fun k e=>aJ.lo HS.own k e));have HL:=hid h1;clear h1 h2;go_wp2;go_ret;exact⟨_,rfl,by rw[HR.o,Cn.tickEnd_eq,if_neg (fun h=>by have:=HQ.symm.trans h.2;cases this)];exact HL.o,by rw[HR.o,Cn.tickEnd_eq,if_neg (fun h=>by have:=HQ.symm.trans h.2;cases this)];exact aF.o,a0.o⟩
    have HP:=hid hp;have hpb:(d.pend==1)=false:=beq_eq_false_iff_ne.2 hp;clear hp;go_wp2_with fail;refine(ai f d now _ HS.cn a7.o HN.o).mono ?_;rintro e w9⟨v2,rfl,hl2,hc,hch⟩;replace HS:=hid (HS.call hc hch);have a2:=hid hl2;clear hl2 hc hch;go_wp2_with fail;refine(fG _ w.heap.size _ _ _ L _ HS.own a2.o (by have:=fH a7.o now;have:=a9.o;omega) HS.ch.size).mono ?_;rintro e wz⟨v',rfl,h1,h2⟩;have aF:=hid (HS.cn.grown h2 (fun k e=>⟨aJ.ty HS.own k e,Nat.le_trans hgt (aJ.lo HS.own k e)⟩));have a0:=hid (HS.ch.grown h2 (fun k e=>aJ.lo HS.own k e));have HL:=hid h1;clear h1 h2;go_wp2;go_ret;exact⟨_,rfl,by rw[HR.o,Cn.tickEnd_eq,if_neg (fun h=>HP.o h.1)];exact HL.o,by rw[HR.o,Cn.tickEnd_eq,if_neg (fun h=>HP.o h.1)];exact aF.o,a0.o⟩
   have HY:=hid hy;have bu:eH c.st=false:=by cases hq:eH c.st with | false=>rfl | true=>exact absurd hq hy
   clear hy;go_wp2_with fail;replace HS:=a6;clear a6 al am an b8 b9 f32 aa;refine(bW c.st _).mono ?_;rintro e w2⟨rfl,rfl⟩;replace HR:=hid (HR.trans (by rw[if_pos HD.o,if_neg (by have:=HV.o;omega),if_neg HY.o]));generalize c.back now=b at HS ab HR;go_wp2_with fail;refine(ik f b _ HS.cn ab.o).mono ?_;rintro e w4⟨ag,cg,rfl,hbl,hc,hch⟩;replace HS:=hid (HS.call hc hch);have ax:=hid hbl;clear hc hch hbl;unfold cw;have a4:=(Below.refl w4.heap.size w4).alloc (Nat.le_refl _) (.cells (aW (b.synS,ag,cg)).toArray 43);have bI:=hid (bX (aQ.new w4 (b.synS,ag,cg)));replace ax:=hid (ax.keep a4.size (.below a4));replace HS:=hid (HS.bel a4);clear a4;go_wp2_with fail;change Calls _ _ #[Value.slice none 0 0,Value.slice (some ⟨w4.heap.size,0,none⟩) [((b.synS,ag,cg):bp)].length 1] (w4.alloc (.cells (aW (b.synS,ag,cg)).toArray 43)) _;generalize w4.heap.size=NB at bI|-;generalize w4.alloc (.cells (aW (b.synS,ag,cg)).toArray 43)=w6 at bI HS ax|-;refine(bs w6 w.heap.size _ [] (bm.nil _ _) NB 0 1 [(b.synS,ag,cg)] bI.o (fun y hy=>by rw[List.mem_singleton.1 hy];exact ax.o) (by simp) HS.ch.size).mono ?_;rintro e w8⟨v',rfl,h1,h2,-⟩;have aF:=hid (HS.cn.grown h2 (fun k e=>by cases e));have a0:=hid (HS.ch.grown h2 (fun k e=>by cases e));have HL:=hid (show aJ w8 w.heap.size v' [b.synS]from⟨_,rfl,h1⟩);clear h1 h2;go_wp2;go_ret;exact⟨_,rfl,by rw[HR.o];exact HL.o,by rw[HR.o];exact aF.o,a0.o⟩
  have HD:=hid hd;have hdd:c.dl.due now=false:=by simpa using hd
  clear hd;replace HR:=hid (HR.trans (by rw[if_neg HD.o]));have a9:=hid (show([]:List Sg).length<=1 by simp);generalize bv:c=d at *;clear bv;generalize hL:([]:List Sg)=L at HS a9 HR;clear hL;have c18:=HS.cn.cell 18 d.pend rfl;by_cases hp:d.pend=1
  ·have HP:=hid hp;rw[hp]at c18;clear hp;have c19:=HS.cn.cell 19 d.ackT.set rfl;have c20:=HS.cn.cell 20 d.ackT.since rfl;have c21:=HS.cn.cell 21 d.ackT.ticks rfl;go_wp2_with fail;refine(ig d.ackT now _ HN.o HO.ackT.1 HO.ackT.2).mono ?_;rintro e w2⟨rfl,hb⟩;replace HS:=hid (HS.bel hb);clear hb;clear c19 c20 c21;by_cases hq:d.ackT.due now=true
   ·have HQ:=hid hq;have a5:=hq;clear hq;go_wp2_with fail;clear a5 c18;refine(br f d _ HS.cn).mono ?_;rintro e w9⟨rfl,hc,hch⟩;replace HS:=hid (HS.call hc hch);clear hc hch;go_wp2_with fail;refine(ai f d.ackNow now _ HS.cn HO.ackNow HN.o).mono ?_;rintro e w9⟨v2,rfl,hl2,hc,hch⟩;replace HS:=hid (HS.call hc hch);have a2:=hid hl2;clear hl2 hc hch;go_wp2_with fail;refine(fG _ w.heap.size _ _ _ L _ HS.own a2.o (by have:=fH HO.ackNow now;have:=a9.o;omega) HS.ch.size).mono ?_;rintro e wz⟨v',rfl,h1,h2⟩;have aF:=hid (HS.cn.grown h2 (fun k e=>⟨aJ.ty HS.own k e,Nat.le_trans hgt (aJ.lo HS.own k e)⟩));have a0:=hid (HS.ch.grown h2 (fun k e=>aJ.lo HS.own k e));have HL:=hid h1;clear h1 h2;go_wp2;go_ret;exact⟨_,rfl,by rw[HR.o,Cn.tickEnd_eq,if_pos ⟨HP.o,HQ.o⟩];exact HL.o,by rw[HR.o,Cn.tickEnd_eq,if_pos ⟨HP.o,HQ.o⟩];exact aF.o,a0.o⟩
   have a5:d.ackT.due now=false:=by simpa using hq
   have HQ:=hid a5;clear hq;go_wp2_with fail;refine(ai f d now _ HS.cn HO.o HN.o).mono ?_;rintro e w9⟨v2,rfl,hl2,hc,hch⟩;replace HS:=hid (HS.call hc hch);have a2:=hid hl2;clear hl2 hc hch;go_wp2_with fail;refine(fG _ w.heap.size _ _ _ L _ HS.own a2.o (by have:=fH HO.o now;have:=a9.o;omega) HS.ch.size).mono ?_;rintro e wz⟨v',rfl,h1,h2⟩;have aF:=hid (HS.cn.grown h2 (fun k e=>⟨aJ.ty HS.own k e,Nat.le_trans hgt (aJ.lo HS.own k e)⟩));have a0:=hid (HS.ch.grown h2 (fun k e=>aJ.lo HS.own k e));have HL:=hid h1;clear h1 h2;go_wp2;go_ret;exact⟨_,rfl,by rw[HR.o,Cn.tickEnd_eq,if_neg (fun h=>by have:=HQ.symm.trans h.2;cases this)];exact HL.o,by rw[HR.o,Cn.tickEnd_eq,if_neg (fun h=>by have:=HQ.symm.trans h.2;cases this)];exact aF.o,a0.o⟩
  have HP:=hid hp;have hpb:(d.pend==1)=false:=beq_eq_false_iff_ne.2 hp;clear hp;go_wp2_with fail;refine(ai f d now _ HS.cn HO.o HN.o).mono ?_;rintro e w9⟨v2,rfl,hl2,hc,hch⟩;replace HS:=hid (HS.call hc hch);have a2:=hid hl2;clear hl2 hc hch;go_wp2_with fail;refine(fG _ w.heap.size _ _ _ L _ HS.own a2.o (by have:=fH HO.o now;have:=a9.o;omega) HS.ch.size).mono ?_;rintro e wz⟨v',rfl,h1,h2⟩;have aF:=hid (HS.cn.grown h2 (fun k e=>⟨aJ.ty HS.own k e,Nat.le_trans hgt (aJ.lo HS.own k e)⟩));have a0:=hid (HS.ch.grown h2 (fun k e=>aJ.lo HS.own k e));have HL:=hid h1;clear h1 h2;go_wp2;go_ret;exact⟨_,rfl,by rw[HR.o,Cn.tickEnd_eq,if_neg (fun h=>HP.o h.1)];exact HL.o,by rw[HR.o,Cn.tickEnd_eq,if_neg (fun h=>HP.o h.1)];exact aF.o,a0.o⟩
end
end Go.Proofs.YtclkcmidhhfdmaaGreatDoor
