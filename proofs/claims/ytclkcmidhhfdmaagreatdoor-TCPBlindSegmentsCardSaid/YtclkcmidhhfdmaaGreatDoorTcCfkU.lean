import Derived.Test.YtclkcmidhhfdmaaGreatDoorTcFrmU
namespace Go.Proofs.YtclkcmidhhfdmaaGreatDoor
open Lib (hid)
theorem x9 (n:Nat):∀(c:Cn) (l:List Sg),(lostL n c l).1.cf=c.cf:=by
 induction n with
 | zero=>exact fun c l=>rfl
 | succ n ih =>
  intro c l;have f:=(dZ c false).2;unfold lostL;split
  ·split
   ·rfl
   split
   ·rw[ih];exact f
   exact f
  rfl
theorem xc (now:Int)(n:Nat):∀(c:Cn) (l:List Sg),(sizeL now n c l).1.cf=c.cf:=by
 induction n with
 | zero=>exact fun c l=>rfl
 | succ n ih =>
  intro c l;unfold sizeL;split
  ·rw[ih];exact(dZ c false).2
  rfl
theorem zI (now:Int)(c:Cn)(l:List Sg):(finL now c l).1.cf=c.cf:=by unfold finL;split;exact(dZ c false).2;rfl
theorem xd (c:Cn)(l:List Sg):(c.pushA l).1.cf=c.cf:=by unfold Cn.pushA;split;exact(dZ c false).2;rfl
theorem xe (c:Cn)(now:Int):(c.pushT now).cf=c.cf:=by unfold Cn.pushT;split;rfl;split <;> rfl
theorem dB (c:Cn)(now:Int):(c.push now).1.cf=c.cf:=by
 rw[kJ];split
 ·rfl
 show(Cn.pushT (Cn.pushA (if aq c.st=true then c.pushD now else(c,[])).1 (if aq c.st=true then c.pushD now else(c,[])).2).1 now).cf=c.cf;rw[xe,xd];split
 ·rw[jF,zI,xc,x9]
 rfl
theorem sK (c:Cn):c.synC.cf=c.cf:=by unfold Cn.synC;split <;> rfl
theorem rT (c:Cn)(now:Int)(s:Sg):(c.receive now s).1.cf=c.cf:=by
 have hf:∀e er,(c.finish now e er).cf=c.cf:=fun e er=>bs c now e;unfold Cn.receive;split
 ·rfl
 split
 ·rfl
 split
 ·rw[jG];split
  ·split <;> rfl
  split
  ·exact hf _ _
  split
  ·rfl
  split
  ·show(Cn.synC ((wv c s).step now 2)).cf=_;rw[sK,bs];rfl
  rw[dB];show(ww (wv c s) now).cf=_;rw[AD];rfl
 unfold Cn.recvOk;dsimp only;split
 ·exact hf _ _
 split
 ·rfl
 split
 ·unfold Cn.stray;dsimp only
  have f:(if ap c.st=true/\s.has=true/\s.syn=false/\c.una<=aA s.ak c.cf.iss/\aA s.ak c.cf.iss<=c.next then c.acked now s (aA s.ak c.cf.iss)else c).cf=c.cf:=by
   split
   ·exact fu c now s _
   rfl
  generalize (if ap c.st=true/\s.has=true/\s.syn=false/\c.una<=aA s.ak c.cf.iss/\aA s.ak c.cf.iss<=c.next then c.acked now s (aA s.ak c.cf.iss)else c)=x at f|-;have g:(if x.st=9/\s.fin=true then { x with per:=.aft now 60 }else x).cf=c.cf:=by split <;> exact f
  generalize (if x.st=9/\s.fin=true then { x with per:=.aft now 60 }else x)=y at g|-;split <;> rw[dB] <;> exact g
 split
 ·rw[dB];rfl
 split
 ·rfl
 unfold Cn.process;dsimp only;split
 ·split
  ·rfl
  split
  ·rw[dB,kz,jt,fu,bs,bs]
  rw[dB,kz,jt,fu,bs]
 split
 ·rw[dB];rfl
 rw[dB,kz,jt,fu]
theorem mM (c:Cn)(now:Int)(l:List Sg):(c.tickEnd now l).1.cf=c.cf:=by
 unfold Cn.tickEnd;dsimp only;split <;> rw[dB]
 rfl
theorem zJ (c:Cn)(now:Int):(c.tick now).1.cf=c.cf:=by
 unfold Cn.tick;split
 ·rfl
 split
 ·exact bs c now 9
 split
 ·dsimp only;split
  ·exact bs _ now 9
  split
  ·rw[mM];unfold Cn.expire;split
   ·rfl
   split
   ·rfl
   exact(dZ _ false).2
  rw[sK]
 exact mM c now []
theorem zK (c:Cn)(now:Int)(x:List UInt8):(c.send now x).1.cf=c.cf:=by
 unfold Cn.send;split
 ·rfl
 rw[dB]
theorem zL (c:Cn)(now n:Int):(c.recv now n).1.cf=c.cf:=by
 unfold Cn.recv;dsimp only;split
 ·rfl
 split
 ·rfl
 split
 ·rfl
 rw[dB];rfl
theorem xg (c:Cn)(now:Int):(c.close now).1.cf=c.cf:=by
 unfold Cn.close;split
 ·rfl
 dsimp only;split
 ·exact bs _ now 5
 split
 ·rw[dB]
 rw[dB,bs]
namespace Pr
variable {p : Pr}
structure Kept (Q:Bool->Cn->Prop):Prop where
 receive:∀i c now s,Q i c->Q i (c.receive now s).1
 tick:∀i c now,Q i c->Q i (c.tick now).1
 send:∀i c now x,Q i c->Q i (c.send now x).1
 recv:∀i c now n,Q i c->Q i (c.recv now n).1
 close:∀i c now,Q i c->Q i (c.close now).1
variable {Q : Bool → Cn → Prop}
def All (Q:Bool->Cn->Prop)(p:Pr):Prop:=∀i,Q i (p.sd i).c
theorem All.act (h:All Q p)(i:Bool)(d:Sd)(l:List Sg)(hd:Q i d.c):All Q ((p.setSd i d).put i l):=by
 intro j;rw[put_sd]
 rcases eU i j with rfl | rfl
 ·rw[(iG p _ d).1];exact hd
 rw[(iG p _ d).2.1];exact h _
theorem All.fold (k:Kept Q):∀(l:List Fl) {p:Pr},All Q p->All Q (l.foldl recv1 p):=by
 intro l
 induction l with
 | nil=>exact fun h=>h
 | cons f l ih=>exact fun {p} h=>ih (h.act f.dst { p.sd f.dst with c:=((p.sd f.dst).c.receive p.now f.s).1 } _ (k.receive _ _ _ _ (h _)))
theorem All.tick (k:Kept Q)(h:All Q p):All Q p.tick:=by
 have h1:=All.fold k ({ p with now:=p.now+1 }:Pr).due (p:={ ({ p with now:=p.now+1 }:Pr)with wire:=({ p with now:=p.now+1 }:Pr).rest }) (fun i=>by cases i;exact h false;exact h true);have h2:=h1.act false { ({ p with now:=p.now+1 }:Pr).deliver.sd false with c:=((({ p with now:=p.now+1 }:Pr).deliver.sd false).c.tick ({ p with now:=p.now+1 }:Pr).deliver.now).1 } ((({ p with now:=p.now+1 }:Pr).deliver.sd false).c.tick ({ p with now:=p.now+1 }:Pr).deliver.now).2 (k.tick _ _ _ (h1 _));exact h2.act true { (({ p with now:=p.now+1 }:Pr).deliver.tick1 false).sd true with c:=(((({ p with now:=p.now+1 }:Pr).deliver.tick1 false).sd true).c.tick (({ p with now:=p.now+1 }:Pr).deliver.tick1 false).now).1 } _ (k.tick _ _ _ (h2 _))
theorem All.ticks (k:Kept Q):∀(n:Nat) {p:Pr},All Q p->All Q (Pr.ticks n p):=by
 intro n
 induction n with
 | zero=>exact fun h=>h
 | succ n ih=>exact fun h=>ih (h.tick k)
theorem All.send (k:Kept Q)(h:All Q p)(i:Bool)(n:Int):All Q (p.send i n):=by
 unfold Pr.send;dsimp only;split
 ·exact h
 split
 ·exact h
 exact h.act i { p.sd i with c:=((p.sd i).c.send p.now (bytes (p.sd i) n)).1,sent:=_ } _ (k.send _ _ _ _ (h i))
theorem All.recv (k:Kept Q)(h:All Q p)(i:Bool)(n:Int):All Q (p.recv i n):=by
 unfold Pr.recv;dsimp only;split
 ·exact h.act i { p.sd i with c:=((p.sd i).c.recv p.now n).1 } [] (k.recv _ _ _ _ (h i))
 exact h.act i { p.sd i with c:=((p.sd i).c.recv p.now n).1,got:=_,fin:=_ } _ (k.recv _ _ _ _ (h i))
theorem All.shut (k:Kept Q)(h:All Q p)(i:Bool):All Q (p.shut i):=by
 unfold Pr.shut;dsimp only;split
 ·exact h
 split
 ·exact h
 exact h.act i { p.sd i with c:=((p.sd i).c.close p.now).1,closed:=true } _ (k.close _ _ _ (h i))
theorem All.opD (k:Kept Q)(h:All Q p)(x:Dv):All Q (p.opD x):=by
 unfold Pr.opD;split
 ·exact h.send k _ _
 split
 ·exact h.recv k _ _
 split
 ·exact h.shut k _
 exact h
theorem All.doD (k:Kept Q)(h:All Q p){P:Par}{n:Int}(hA:Al P p n)(hP:P.Ok)(h0:0<=n)(hn:n+21<=5000)(x:Dv):All Q (p.doD x).1:=by
 rw[(hA.doD hP x h0 hn).1];exact(h.opD k x).ticks k _
end Pr
theorem BL (K:Bool->Cf):Pr.Kept (fun i c=>c.cf=K i) :=
 ⟨fun _ c now s h=>(rT c now s).trans h,fun _ c now h=>(zJ c now).trans h,fun _ c now x h=>(zK c now x).trans h,fun _ c now n h=>(zL c now n).trans h,fun _ c now h=>(xg c now).trans h⟩
def B3 (x:Rw)(i:Bool):Cf:=match i with | false=>df x | true=>dC x
theorem BM (x:Rw)(fates:List Int)(n m:Nat):Pr.All (fun i c=>c.cf=B3 x i) (gr x fates n m):=by
 rw[iI];intro i;show((Pr.put (fq x fates n m) true [(cD 0 (dC x) (dy x)).synS]).sd i).c.cf=B3 x i;rw[Pr.put_sd]
 cases i <;> rfl
end Go.Proofs.YtclkcmidhhfdmaaGreatDoor
