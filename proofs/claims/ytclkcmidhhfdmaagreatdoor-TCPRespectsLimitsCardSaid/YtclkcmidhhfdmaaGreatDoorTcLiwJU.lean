import Derived.Test.YtclkcmidhhfdmaaGreatDoorUb37
import Derived.Test.YtclkcmidhhfdmaaGreatDoorCards
import Derived.Test.YtclkcmidhhfdmaaGreatDoorTie
import Derived.Test.YtclkcmidhhfdmaaGreatDoorRows
import Derived.ShutString
import Derived.ChangeOld
import Derived.Deep.DeepHandedRow
namespace Go.Proofs.YtclkcmidhhfdmaaGreatDoor
open Lib (hid)
def ackT1 (now ack una:Int)(r:Cn):Cn :=
 if una<ack then
  let d:Cn:={ r with dl:=al0,tm:=r.tm.acked now ack }
  let e:Cn:=if 0<ack-max una 1 then { d with cg:=d.cg.acked (ack-max una 1) ack }else d
  e.drop ack
 else r
def ackT2 (ack win sacked flight:Int)(a:Cn):Cn :=
 let b:=a.announce ack win
 if 0<sacked/\b.mark<=ack/\b.sc.lost b.mss≠[]then { b with cg:=b.cg.lost flight b.next }else b
theorem acked_form (c:Cn)(now:Int)(s:Sg)(ack:Int):c.acked now s ack =
 if ack<c.una then { c with tries:=0 }
 else if c.una<=c.last/\c.last<ack then(ackT2 ack s.win (c.repN ack s.bl) c.flight (ackT1 now ack c.una (({ c with tries:=0 }:Cn).report ack s.bl))).step now 7
 else ackT2 ack s.win (c.repN ack s.bl) c.flight (ackT1 now ack c.una (({ c with tries:=0 }:Cn).report ack s.bl)):=rfl
theorem ackC_irs (c:Cn)(y:Bool):(c.ackC y).irs=c.irs/\(c.ackC y).cf=c.cf:=by unfold Cn.ackC;split <;> exact⟨rfl,rfl⟩
theorem pushD_form (c:Cn)(now:Int):c.pushD now=finL now (sizeL now ((lostL (c.flight.toNat+1) c []).1.unsent.toNat+1) (lostL (c.flight.toNat+1) c []).1 (lostL (c.flight.toNat+1) c []).2).1 (sizeL now ((lostL (c.flight.toNat+1) c []).1.unsent.toNat+1) (lostL (c.flight.toNat+1) c []).1 (lostL (c.flight.toNat+1) c []).2).2:=rfl
theorem push_form (c:Cn)(now:Int):c.push now=if c.st=0 then(c,[])else(((if sendsB c.st=true then c.pushD now else(c,[])).1.pushA (if sendsB c.st=true then c.pushD now else(c,[])).2).1.pushT now,((if sendsB c.st=true then c.pushD now else(c,[])).1.pushA (if sendsB c.st=true then c.pushD now else(c,[])).2).2):=rfl
theorem step_cf (c:Cn)(now e:Int):(c.step now e).cf=c.cf:=by unfold Cn.step;split;rfl;split <;> rfl
theorem ackT1_cf (now ack una:Int)(r:Cn):(ackT1 now ack una r).cf=r.cf:=by unfold ackT1;split;dsimp only;split <;> rfl;rfl
theorem ackT2_cf (ack win sacked flight:Int)(r:Cn):(ackT2 ack win sacked flight r).cf=r.cf:=by unfold ackT2;dsimp only;split <;> rfl
theorem acked_cf (c:Cn)(now:Int)(s:Sg)(ack:Int):(c.acked now s ack).cf=c.cf:=by
 rw[acked_form];split
 ·rfl
 split
 ·rw[step_cf,ackT2_cf,ackT1_cf];rfl
 rw[ackT2_cf,ackT1_cf];rfl
theorem store_cf (c:Cn)(now:Int)(s:Sg)(off:Int):(c.store now s off).cf=c.cf:=by
 unfold Cn.store;split
 ·rfl
 split
 ·split
  ·unfold Cn.ackSoon;split <;> rfl
  rfl
 rfl
theorem finS_cf (c:Cn)(now:Int)(s:Sg)(off:Int):(c.finS now s off).cf=c.cf:=by
 unfold Cn.finS;dsimp only;have h1:(if s.fin=true/\canRecv c.st=true/\c.ended=false/\c.bx.nx<=off+s.s.length then { c with ended:=true,fend:=off+s.s.length }else c).cf=c.cf:=by split <;> rfl
 generalize (if s.fin=true/\canRecv c.st=true/\c.ended=false/\c.bx.nx<=off+s.s.length then { c with ended:=true,fend:=off+s.s.length }else c)=d at h1|-;split
 ·rw[<-h1];exact step_cf { d with over:=true } now 6
 exact h1
def mt0 (c:Cn)(s:Sg):Cn:={ c.meet s with tries:=0 }
def gr3 (d:Cn)(now:Int):Cn:={ ({ d with sc:=d.sc.acked 1 [],tm:=d.tm.acked now 1 }:Cn).step now 3 with dl:=al0 }
theorem greet_form (c:Cn)(now:Int)(s:Sg):c.greet now s=if s.has=true/\diffV s.ak c.cf.iss≠1 then(if s.rst=true then(c,[])else(c,[c.resetS s.ak]))else if s.rst=true/\s.has=true then(c.finish now 8 184,[])else if s.syn=false then(c,[])else if s.has=false then(((mt0 c s).step now 2).synC,[((mt0 c s).step now 2).synS])else(gr3 (mt0 c s) now).ackNow.push now:=rfl
theorem gr3_cf (d:Cn)(now:Int):(gr3 d now).cf=d.cf:=step_cf _ now 3
section
theorem lostL_cf (n:Nat):∀(c:Cn) (l:List Sg),(lostL n c l).1.cf=c.cf:=by
 induction n with
 | zero=>exact fun c l=>rfl
 | succ n ih =>
  intro c l;have f:=(ackC_irs c false).2;unfold lostL;split
  ·split
   ·rfl
   split
   ·rw[ih];exact f
   exact f
  rfl
theorem sizeL_cf (now:Int)(n:Nat):∀(c:Cn) (l:List Sg),(sizeL now n c l).1.cf=c.cf:=by
 induction n with
 | zero=>exact fun c l=>rfl
 | succ n ih =>
  intro c l;unfold sizeL;split
  ·rw[ih];exact(ackC_irs c false).2
  rfl
theorem finL_cf (now:Int)(c:Cn)(l:List Sg):(finL now c l).1.cf=c.cf:=by unfold finL;split;exact(ackC_irs c false).2;rfl
theorem pushA_cf (c:Cn)(l:List Sg):(c.pushA l).1.cf=c.cf:=by unfold Cn.pushA;split;exact(ackC_irs c false).2;rfl
theorem pushT_cf (c:Cn)(now:Int):(c.pushT now).cf=c.cf:=by unfold Cn.pushT;split;rfl;split <;> rfl
theorem push_cf (c:Cn)(now:Int):(c.push now).1.cf=c.cf:=by
 rw[push_form];split
 ·rfl
 show(Cn.pushT (Cn.pushA (if sendsB c.st=true then c.pushD now else(c,[])).1 (if sendsB c.st=true then c.pushD now else(c,[])).2).1 now).cf=c.cf;rw[pushT_cf,pushA_cf];split
 ·rw[pushD_form,finL_cf,sizeL_cf,lostL_cf]
 rfl
theorem synC_cf (c:Cn):c.synC.cf=c.cf:=by unfold Cn.synC;split <;> rfl
theorem receive_cf (c:Cn)(now:Int)(s:Sg):(c.receive now s).1.cf=c.cf:=by
 have hf:∀e er,(c.finish now e er).cf=c.cf:=fun e er=>step_cf c now e;unfold Cn.receive;split
 ·rfl
 split
 ·rfl
 split
 ·rw[greet_form];split
  ·split <;> rfl
  split
  ·exact hf _ _
  split
  ·rfl
  split
  ·show(Cn.synC ((mt0 c s).step now 2)).cf=_;rw[synC_cf,step_cf];rfl
  rw[push_cf];show(gr3 (mt0 c s) now).cf=_;rw[gr3_cf];rfl
 unfold Cn.recvOk;dsimp only;split
 ·exact hf _ _
 split
 ·rfl
 split
 ·unfold Cn.stray;dsimp only
  have f:(if syncB c.st=true/\s.has=true/\s.syn=false/\c.una<=diffV s.ak c.cf.iss/\diffV s.ak c.cf.iss<=c.next then c.acked now s (diffV s.ak c.cf.iss)else c).cf=c.cf:=by
   split
   ·exact acked_cf c now s _
   rfl
  generalize (if syncB c.st=true/\s.has=true/\s.syn=false/\c.una<=diffV s.ak c.cf.iss/\diffV s.ak c.cf.iss<=c.next then c.acked now s (diffV s.ak c.cf.iss)else c)=x at f|-;have g:(if x.st=9/\s.fin=true then { x with per:=.aft now 60 }else x).cf=c.cf:=by split <;> exact f
  generalize (if x.st=9/\s.fin=true then { x with per:=.aft now 60 }else x)=y at g|-;split <;> rw[push_cf] <;> exact g
 split
 ·rw[push_cf];rfl
 split
 ·rfl
 unfold Cn.process;dsimp only;split
 ·split
  ·rfl
  split
  ·rw[push_cf,finS_cf,store_cf,acked_cf,step_cf,step_cf]
  rw[push_cf,finS_cf,store_cf,acked_cf,step_cf]
 split
 ·rw[push_cf];rfl
 rw[push_cf,finS_cf,store_cf,acked_cf]
theorem tickEnd_cf (c:Cn)(now:Int)(l:List Sg):(c.tickEnd now l).1.cf=c.cf:=by
 unfold Cn.tickEnd;dsimp only;split <;> rw[push_cf]
 rfl
theorem tick_cf (c:Cn)(now:Int):(c.tick now).1.cf=c.cf:=by
 unfold Cn.tick;split
 ·rfl
 split
 ·exact step_cf c now 9
 split
 ·dsimp only;split
  ·exact step_cf _ now 9
  split
  ·rw[tickEnd_cf];unfold Cn.expire;split
   ·rfl
   split
   ·rfl
   exact(ackC_irs _ false).2
  rw[synC_cf]
 exact tickEnd_cf c now []
theorem send_cf (c:Cn)(now:Int)(x:List UInt8):(c.send now x).1.cf=c.cf:=by
 unfold Cn.send;split
 ·rfl
 rw[push_cf]
theorem recv_cf (c:Cn)(now n:Int):(c.recv now n).1.cf=c.cf:=by
 unfold Cn.recv;dsimp only;split
 ·rfl
 split
 ·rfl
 split
 ·rfl
 rw[push_cf];rfl
theorem close_cf (c:Cn)(now:Int):(c.close now).1.cf=c.cf:=by
 unfold Cn.close;split
 ·rfl
 dsimp only;split
 ·exact step_cf _ now 5
 split
 ·rw[push_cf]
 rw[push_cf,step_cf]
namespace Pr
variable {p : Pr}
structure Kept (Q:Bool->Cn->Prop):Prop where
 receive:∀i c now s,Q i c->Q i (c.receive now s).1
 tick:∀i c now,Q i c->Q i (c.tick now).1
 send:∀i c now x,Q i c->Q i (c.send now x).1
 recv:∀i c now n,Q i c->Q i (c.recv now n).1
 close:∀i c now,Q i c->Q i (c.close now).1
variable {Q : Bool → Cn → Prop}
def All (Q:Bool->Cn->Prop)(p:Pr):Prop:=∀i,Q i (p.sd i).c
theorem All.act (h:All Q p)(i:Bool)(d:Sd)(l:List Sg)(hd:Q i d.c):All Q ((p.setSd i d).put i l):=by
 intro j;rw[put_sd]
 rcases bool_case i j with rfl | rfl
 ·rw[(sd_set p _ d).1];exact hd
 rw[(sd_set p _ d).2.1];exact h _
theorem All.fold (k:Kept Q):∀(l:List Fl) {p:Pr},All Q p->All Q (l.foldl recv1 p):=by
 intro l
 induction l with
 | nil=>exact fun h=>h
 | cons f l ih=>exact fun {p} h=>ih (h.act f.dst { p.sd f.dst with c:=((p.sd f.dst).c.receive p.now f.s).1 } _ (k.receive _ _ _ _ (h _)))
theorem All.tick (k:Kept Q)(h:All Q p):All Q p.tick:=by
 have h1:=All.fold k ({ p with now:=p.now+1 }:Pr).due (p:={ ({ p with now:=p.now+1 }:Pr)with wire:=({ p with now:=p.now+1 }:Pr).rest }) (fun i=>by cases i;exact h false;exact h true);have h2:=h1.act false { ({ p with now:=p.now+1 }:Pr).deliver.sd false with c:=((({ p with now:=p.now+1 }:Pr).deliver.sd false).c.tick ({ p with now:=p.now+1 }:Pr).deliver.now).1 } ((({ p with now:=p.now+1 }:Pr).deliver.sd false).c.tick ({ p with now:=p.now+1 }:Pr).deliver.now).2 (k.tick _ _ _ (h1 _));exact h2.act true { (({ p with now:=p.now+1 }:Pr).deliver.tick1 false).sd true with c:=(((({ p with now:=p.now+1 }:Pr).deliver.tick1 false).sd true).c.tick (({ p with now:=p.now+1 }:Pr).deliver.tick1 false).now).1 } _ (k.tick _ _ _ (h2 _))
theorem All.ticks (k:Kept Q):∀(n:Nat) {p:Pr},All Q p->All Q (Pr.ticks n p):=by
 intro n
 induction n with
 | zero=>exact fun h=>h
 | succ n ih=>exact fun h=>ih (h.tick k)
theorem All.send (k:Kept Q)(h:All Q p)(i:Bool)(n:Int):All Q (p.send i n):=by
 unfold Pr.send;dsimp only;split
 ·exact h
 split
 ·exact h
 exact h.act i { p.sd i with c:=((p.sd i).c.send p.now (bytes (p.sd i) n)).1,sent:=_ } _ (k.send _ _ _ _ (h i))
theorem All.recv (k:Kept Q)(h:All Q p)(i:Bool)(n:Int):All Q (p.recv i n):=by
 unfold Pr.recv;dsimp only;split
 ·exact h.act i { p.sd i with c:=((p.sd i).c.recv p.now n).1 } [] (k.recv _ _ _ _ (h i))
 exact h.act i { p.sd i with c:=((p.sd i).c.recv p.now n).1,got:=_,fin:=_ } _ (k.recv _ _ _ _ (h i))
theorem All.shut (k:Kept Q)(h:All Q p)(i:Bool):All Q (p.shut i):=by
 unfold Pr.shut;dsimp only;split
 ·exact h
 split
 ·exact h
 exact h.act i { p.sd i with c:=((p.sd i).c.close p.now).1,closed:=true } _ (k.close _ _ _ (h i))
theorem All.opD (k:Kept Q)(h:All Q p)(x:Dv):All Q (p.opD x):=by
 unfold Pr.opD;split
 ·exact h.send k _ _
 split
 ·exact h.recv k _ _
 split
 ·exact h.shut k _
 exact h
theorem All.doD (k:Kept Q)(h:All Q p){P:Par}{n:Int}(hA:Al P p n)(hP:P.Ok)(h0:0<=n)(hn:n+21<=5000)(x:Dv):All Q (p.doD x).1:=by
 rw[(hA.doD hP x h0 hn).1];exact(h.opD k x).ticks k _
end Pr
theorem cf_kept (K:Bool->Cf):Pr.Kept (fun i c=>c.cf=K i) :=
 ⟨fun _ c now s h=>(receive_cf c now s).trans h,fun _ c now h=>(tick_cf c now).trans h,fun _ c now x h=>(send_cf c now x).trans h,fun _ c now n h=>(recv_cf c now n).trans h,fun _ c now h=>(close_cf c now).trans h⟩
def kfX (x:Rw)(i:Bool):Cf:=match i with | false=>kfA x | true=>kfB x
theorem meet_cf (x:Rw)(fates:List Int)(n m:Nat):Pr.All (fun i c=>c.cf=kfX x i) (meetP x fates n m):=by
 rw[meetP_eq];intro i;show((Pr.put (base0 x fates n m) true [(acceptC 0 (kfB x) (synA x)).synS]).sd i).c.cf=kfX x i;rw[Pr.put_sd]
 cases i <;> rfl
end
section
open Go.RowKit Go.Shelf
def rAdd (a n:Int):Int:=numV (numV a+numV n)
def rAhead (a b:Int):Int:=numV (numV a-numV b)
theorem numV_bd (n:Int):0<=numV n/\numV n<4294967296:=by unfold numV;omega
theorem rAdd_bd (a b:Int):0<=rAdd a b/\rAdd a b<4294967296:=numV_bd _
theorem rAhead_bd (a b:Int):0<=rAhead a b/\rAhead a b<4294967296:=numV_bd _
theorem rAdd_one (a n:Int):rAdd a n=addV a n:=by unfold rAdd numV addV;omega
theorem rAhead_diff (a b:Int):diffV a b<=rAhead a b/\(0<=diffV a b->rAhead a b=diffV a b):=by unfold rAhead numV diffV;omega
theorem radd_any (a n:Int)(w:World)(ha:In64 a)(hn:In64 n) :
  Calls Tryz.prog 25 #[.int .i64 a,.int .i64 n] w fun e w'=>e= .returned (.int .i64 (rAdd a n))/\w=w':=by
 have HV:=hid (show numV (numV a+numV n)=rAdd a n from rfl);have b1:=numV_bd a;have b2:=numV_bd n;obtain⟨x,hx⟩:∃x,x=numV a:=⟨_,rfl⟩;obtain⟨y,hy⟩:∃y,y=numV n:=⟨_,rfl⟩;have HX:=hid hx;have HY:=hid hy;rw[<-hx]at b1 HV;rw[<-hy]at b2 HV;clear hx hy;obtain⟨b3,b4⟩:=b1;obtain⟨b5,b6⟩:=b2
 go_enter Tryz.func25,Tryz.ntmps25
 go_wp2_with fail;refine(tround_any a _ ha).mono ?_;rintro e w1⟨rfl,rfl⟩;rw[<-HX.o];go_wp2_with fail;refine(tround_any n _ hn).mono ?_;rintro e w1⟨rfl,rfl⟩;rw[<-HY.o];go_wp2_with fail;refine(tround_any (x+y) _ (by unfold In64;omega)).mono ?_;rintro e w1⟨rfl,rfl⟩;rw[HV.o];go_wp2;go_ret;exact⟨rfl,rfl⟩
theorem rahead_any (a n:Int)(w:World)(ha:In64 a)(hn:In64 n) :
  Calls Tryz.prog 24 #[.int .i64 a,.int .i64 n] w fun e w'=>e= .returned (.int .i64 (rAhead a n))/\w=w':=by
 have HV:=hid (show numV (numV a-numV n)=rAhead a n from rfl);have b1:=numV_bd a;have b2:=numV_bd n;obtain⟨x,hx⟩:∃x,x=numV a:=⟨_,rfl⟩;obtain⟨y,hy⟩:∃y,y=numV n:=⟨_,rfl⟩;have HX:=hid hx;have HY:=hid hy;rw[<-hx]at b1 HV;rw[<-hy]at b2 HV;clear hx hy;obtain⟨b3,b4⟩:=b1;obtain⟨b5,b6⟩:=b2
 go_enter Tryz.func24,Tryz.ntmps24
 go_wp2_with fail;refine(tround_any a _ ha).mono ?_;rintro e w1⟨rfl,rfl⟩;rw[<-HX.o];go_wp2_with fail;refine(tround_any n _ hn).mono ?_;rintro e w1⟨rfl,rfl⟩;rw[<-HY.o];go_wp2_with fail;refine(tround_any (x-y) _ (by unfold In64;omega)).mono ?_;rintro e w1⟨rfl,rfl⟩;rw[HV.o];go_wp2;go_ret;exact⟨rfl,rfl⟩
end
section
namespace Pr
variable {P : Par} {L : List Fl} {f : Fl} {e0 e1 : Int}
structure Ed (P:Par)(L:List Fl)(e0 e1:Int):Prop where
 a:edgeL P false L<=e0
 b:edgeL P true L<=e1
 a0:0<=e0/\e0<=9000000000
 b0:0<=e1/\e1<=9000000000
def edOf (e0 e1:Int)(i:Bool):Int:=match i with | false=>e0 | true=>e1
def toldV (P:Par)(f:Fl):Int:=rAhead f.s.ak (rAdd (P.iss f.dst) 1)+f.s.win
theorem Ed.of (h:Ed P L e0 e1)(i:Bool):edgeL P i L<=edOf e0 e1 i/\0<=edOf e0 e1 i/\edOf e0 e1 i<=9000000000:=by
 cases i
 ·exact⟨h.a,h.a0⟩
 exact⟨h.b,h.b0⟩
theorem told_bd (f:Fl)(hf:f.s.Ok):0<=toldV P f/\toldV P f<=5000000000:=by
 have h1:=rAhead_bd f.s.ak (rAdd (P.iss f.dst) 1);have h2:=hf.win;unfold toldV;omega
theorem told_ge (hP:P.Ok)(hf:f.s.Ok):diffV f.s.ak (addV (P.iss f.dst) 1)+f.s.win<=toldV P f:=by
 have h0:=hP f.dst;have h1:=rAdd_one (P.iss f.dst) 1;have h2:=rAdd_bd (P.iss f.dst) 1;have h3:=hf.ak;have:=(rAhead_diff f.s.ak (rAdd (P.iss f.dst) 1)).1;unfold toldV;rw[h1]at this|-;omega
theorem Ed.next (h:Ed P L e0 e1)(hP:P.Ok)(hf:f.s.Ok):Ed P (L++[f]) (if f.dst=false/\f.s.has=true/\f.s.syn=false then max e0 (toldV P f)else e0) (if f.dst=true/\f.s.has=true/\f.s.syn=false then max e1 (toldV P f)else e1):=by
 have h1:=told_bd (P:=P) f hf;have h2:=told_ge hP hf;have h3:=h.a;have h4:=h.b;have h5:=h.a0;have h6:=h.b0;refine⟨?_,?_,?_,?_⟩
 ·rw[edge_add];split
  ·rename_i hh;rw[hh.1]at h2;omega
  exact h3
 ·rw[edge_add];split
  ·rename_i hh;rw[hh.1]at h2;omega
  exact h4
 ·split <;> omega
 split <;> omega
def offV (P:Par)(f:Fl):Int:=rAhead f.s.sq (rAdd (P.iss (!f.dst)) 1)
theorem Chk.law (c:Chk P L f)(h:Ed P L e0 e1)(hP:P.Ok)(hf:f.s.Ok)(hs:f.s.s≠[]):offV P f+f.s.s.length<=edOf e0 e1 (!f.dst)+1:=by
 have h0:=hP (!f.dst);have h1:=rAdd_one (P.iss (!f.dst)) 1;have h2:=rAdd_bd (P.iss (!f.dst)) 1;have h3:=hf.sq;have h4:=c.lim hs;have h5:=c.pos hs;have h6:=(h.of (!f.dst)).1;have h7:=(rAhead_diff f.s.sq (rAdd (P.iss (!f.dst)) 1)).2;rw[h1]at h7;have h8:=h7 h5;unfold offV;rw[h1];omega
end Pr
end
section
set_option maxHeartbeats 8000000
set_option maxRecDepth 100000
open Go.ChangeShapes Go.WideShapes Go.ChangeAt Go.RowKit Go.Shelf
theorem dn {p:Prop}[Decidable p]:decide p=false<->¬p:=decide_eq_false_iff_not
theorem bd (w:World):Below w.heap.size w w.drew:=(Below.refl _ w).drew
theorem RowB.low {B N:Nat}{ty:TypeId}{cs:List Value}{W W':World}(h:RowB B ty cs W)(hb:Below N W W')(hB:B<N):RowB B ty cs W':=(hb.block B hB).trans h
theorem fl_seg {w:World}{g k:Nat}{x:FlM}(h:∀j,j<16->∀u,(flL x)[j]? =some u->w.cell? ⟨g,k*16+j,none⟩=some u):w.rangeAt g (k*16+3) (sgL (x.1.s,x.2.1,x.2.2)):=fun j v hj=>by
 have hl:=(List.getElem?_eq_some_iff.1 hj).1;have:=h (3+j) (by simp[sgL]at hl;omega) v (by rw[show flL x=[.int .i64 (bI x.1.dst),.int .i64 x.1.due,.bool x.1.held]++sgL (x.1.s,x.2.1,x.2.2)from rfl,List.getElem?_append_right (by show 3<=_;omega)];rw[show 3+j-[Value.int .i64 (bI x.1.dst),.int .i64 x.1.due,.bool x.1.held].length=j by show 3+j-3=j;omega];exact hj)
 rwa [show k*16+(3+j)=k*16+3+j by omega]at this
theorem in1:In64 1:=by unfold In64;decide
theorem rAdd_in (a b:Int):In64 (rAdd a b):=by have:=rAdd_bd a b;unfold In64;omega
structure Lr (F EB:Nat)(y:SgM)(l0 l1 l2:List Value)(v w:World):Prop where
 f:RowB F 43 (sgL y) w
 a:RowB EB 55 l0 w
 b:RowB (EB+1) 55 l1 w
 c:RowB (EB+2) 55 l2 w
 q:Below EB v w
theorem Lr.below {F EB:Nat}{y:SgM}{l0 l1 l2:List Value}{v w w':World}(h:Lr F EB y l0 l1 l2 v w)(hv:EB<=v.heap.size)(hb:Below w.heap.size w w'):Lr F EB y l0 l1 l2 v w':=⟨h.f.below hb,h.a.below hb,h.b.below hb,h.c.below hb,h.q.trans (hb.mono (Nat.le_trans hv h.q.size))⟩
theorem held_bd {s:Sd}(h:SdOk s){k:Int}(hk:s.c.cf.keep=40+pickV k 400):(s.c.held.length<=1099511627776/\0<=s.c.cf.keep/\s.c.cf.keep<=1099511627776)/\0<=s.c.space/\s.c.space<=40+pickV k 400:=by
 have h1:=h.len;have h2:=h.sl;have h3:=h.last;have h4:=h.c.b0;have h5:=pickV_bd k 400 (by decide);unfold Cn.last at h3;refine⟨by omega,?_⟩;unfold Cn.space;split <;> omega
theorem ed0 (x:Rw):Pr.Ed (parX x) [] (kfB x).room (kfA x).room:=by
 have h2:=pickV_bd x.roomA 400 (by decide);have h3:=pickV_bd x.roomB 400 (by decide);exact⟨Int.le_refl _,Int.le_refl _,⟨by show 0<=40+pickV x.roomB 400;omega,by show 40+pickV x.roomB 400<=_;omega⟩,⟨by show 0<=40+pickV x.roomA 400;omega,by show 40+pickV x.roomA 400<=_;omega⟩⟩
theorem three_new (W:World)(ty:TypeId)(a b c:List Value):RowB W.heap.size ty a (((W.alloc (.cells a.toArray ty)).alloc (.cells b.toArray ty)).alloc (.cells c.toArray ty))/\RowB (W.heap.size+1) ty b (((W.alloc (.cells a.toArray ty)).alloc (.cells b.toArray ty)).alloc (.cells c.toArray ty))/\RowB (W.heap.size+2) ty c (((W.alloc (.cells a.toArray ty)).alloc (.cells b.toArray ty)).alloc (.cells c.toArray ty))/\Below W.heap.size W (((W.alloc (.cells a.toArray ty)).alloc (.cells b.toArray ty)).alloc (.cells c.toArray ty)):=by
 obtain⟨h1,h2,h3⟩:=two_new W ty a b;have hs:((W.alloc (.cells a.toArray ty)).alloc (.cells b.toArray ty)).heap.size=W.heap.size+2:=by rw[World.size_alloc,World.size_alloc]
 generalize (W.alloc (.cells a.toArray ty)).alloc (.cells b.toArray ty)=w1 at *;have hb:=(Below.refl w1.heap.size w1).alloc (Nat.le_refl _) (.cells c.toArray ty);have h4:=RowB.new w1 ty c;rw[hs]at h4;exact⟨h1.below hb,h2.below hb,h4,h3.trans (hb.mono h3.size)⟩
theorem wk (W:World)(x:Rw)(hx:x.In)(a1:Option Addr)(len1 cap1:Nat)(zs:List Int)(h1:IsRow .i64 W a1 len1 cap1 zs)(a2:Option Addr)(len2 cap2:Nat)(xs:Nat->Dv)(h2:IsDos W W.heap.size a2 len2 xs)(gl:Gl W) :
  Calls Tryz.prog 5 #[.agg (rwL x).toArray,.slice a1 len1 cap1,.slice a2 len2 cap2] W fun e W'=>e= .returned (.bool true)/\Below W.heap.size W W':=by
 obtain⟨K,hK⟩:∃K:Nat,min (len1:Int) 100=(K:Int):=⟨min len1 100,by omega⟩;have hK1:K<=len1:=by omega
 have hKc:K<=cap1:=Nat.le_trans hK1 (row_cap h1).1;have hKm:(K:Int)<=(cap1:Int):=by omega
 have hcm:=(row_cap h1).2;have hK100:K<=1000:=by omega
 have A7:=hid hK;clear hK;have Ao:=hid (FatAt.of_row h1 hK1 hK100).2;have Aj:=hid h1;clear h1;have HX:=hid hx;have HG:=hid gl;have HD:=hid h2;clear h2;clear hx gl;have HR:=hid (RowB.new W 23 (rwL x));have HB:=hid ((Below.refl W.heap.size W).alloc (Nat.le_refl _) (.cells (rwL x).toArray 23))
 go_enter Tryz.func5,Tryz.ntmps5
 go_upto_region 1 with fail
 change Code.wp _ _ _ _ (W.alloc (.cells (rwL x).toArray 23));obtain⟨W0,hW0⟩:∃W0,W0=W.heap.size:=⟨_,rfl⟩;rw[<-hW0]at HR|-;clear hW0;generalize W.alloc (.cells (rwL x).toArray 23)=w1 at HR HB|-;go_wp2_with fail;refine(tsane_any _ (HG.below (HB.mono HG.top))).mono ?_;rintro e w2⟨rfl,hb⟩;replace HR:=hid (HR.below hb);replace HB:=hid (HB.trans (hb.mono HB.size));clear hb;have HK:=hid (kf_ok x);have r0:=HR.cell 0 _ rfl;have r1:=HR.cell 1 _ rfl;have r2:=HR.cell 2 _ rfl;have r3:=HR.cell 3 _ rfl;have r4:=HR.cell 4 _ rfl;have r5:=HR.cell 5 _ rfl;go_wp2_with fail;refine(tconfigs_any x _ HX.o).mono ?_;rintro e w2b⟨rfl,hb⟩;clear r0 r1 r2 r3 r4 r5;replace HB:=hid (HB.trans (hb.mono HB.size));replace HR:=hid (HR.below hb);clear hb;dsimp only[cfV]
 go_upto_region 3 with fail
 change Code.wp _ _ _ _ ((w2b.alloc (.cells (cfL (kfA x)).toArray 52)).alloc (.cells (cfL (kfB x)).toArray 52));have HT:=hid (two_new w2b 52 (cfL (kfA x)) (cfL (kfB x)));replace HB:=hid (HB.trans (HT.2.2.mono HB.size));replace HR:=hid (HR.below HT.2.2);obtain⟨NA,hNA⟩:∃NA,NA=w2b.heap.size:=⟨_,rfl⟩;rw[<-hNA]at HT|-;clear hNA;generalize (w2b.alloc (.cells (cfL (kfA x)).toArray 52)).alloc (.cells (cfL (kfB x)).toArray 52)=w2c at HB HT HR|-;have Hm:=hid HT.1;have Hj:=hid HT.2.1;clear HT;refine wpB (fun W':World=>RowB W0 23 (rwL x) W') (HR.o) fun hZ=>?_;replace HR:=hid (HR.below (Below.refl _ _).drew);replace HB:=hid HB.drew;replace Hm:=hid (Hm.below (Below.refl _ _).drew);replace Hj:=hid (Hj.below (Below.refl _ _).drew);generalize w2c.drew=w3 at HR HB hZ Hm Hj|-;have Ht:=hid (show NA+1<w3.heap.size from Hj.lt);have Ar:=hid (show Calls Tryz.prog 16 #[.agg #[.int .i64 x.issA,.int .i64 x.issB,.int .i64 x.mss,.int .i64 x.roomA,.int .i64 x.roomB,.int .i64 x.keep],.slice a1 K cap1,.int .i64 600,.int .i64 600] w3 (MetOut x (zs.take K) 600 600 w3)from by have:=tmeetP_any x (zs.take K) a1 cap1 600 600 w3 HX.o (HG.below (HB.mono HG.top)) (row_below Aj.o hK1 hK100 HB.o) (by decide) (by decide);rw[Ao.o]at this;exact this);refine wpL 0 (rwL x) (fun _ h=>RowB.range h) Tryz.underlying23 (by kernel_rfl) ?_ (ha:=by((try simp only[Act.put,List.setIfInBounds_toArray,List.set_cons_zero,List.set_cons_succ,rwL]);(try rfl)));refine wpT2 1 2 ?_;refine wpT 3 ?_;refine wpT 4 (v:=.int .i64 (K:Int)) ?_ (hy:=by intro w hSw;(try dsimp only at hSw);go_simp;(rw[A7.o]));refine wpT 5 ?_;refine wpR 6 fun Kq hKq=> ?_;go_simp;refine(Ar.o).mono ?_;rintro e w4⟨t,rfl,hpa,hb⟩;replace Hm:=hid (Hm.below hb);replace Hj:=hid (Hj.below hb);replace HR:=hid (HR.below hb);have Hp:=hid hpa;have As:=hid HB.size;replace HB:=hid (HB.trans (hb.mono HB.size));clear hb hpa;go_simp;refine hKq.out _ _ (HR.o) ?_;clear hKq Kq hZ;refine fun hZ=>wpA ?_;refine wpT4 7 8 9 10 ?_;refine wpT 11 ?_;refine wpD ?_ _;clear hZ Ar;obtain⟨K2,hK2⟩:∃K2,K2=min len2 30:=⟨_,rfl⟩;have hl2:len2<=maxLen:=HD.1;have A0:=hid (al0_meet x (zs.take K) 600 600 (by rw[Ao.o];exact hK100) (by decide) (by decide));have HP:=hid (parX_ok x);have A2:=hid (meet_cf x (zs.take K) 600 600);have Ah:=hid (PrSt.start Hp.o)
 go_upto_block 0 with fail
 go_cut [6,12]from 40 to 97 (fun _ _ wx=>∃(tk:Ft) (p:Pr) (n:Int),PrSt w3.heap.size t w4 tk p wx/\Pr.Al (parX x) p n/\0<=n/\n<=700)
 case first =>
  go_wp2_with fail
  go_loopg [12] K2 (fun g iv wr=>∃(k:Nat) (tk:Ft) (p:Pr),iv= .int .i64 (k:Int)/\g+k=K2/\PrSt w3.heap.size t w4 tk p wr/\Pr.Al (parX x) p (21*(k:Int))/\Pr.All (fun i c=>c.cf=kfX x i) p)
  case atStart=>exact⟨0,t,_,rfl,by omega,Ah.o,A0.o,A2.o⟩
  case round =>
   obtain⟨k,tk,p,rfl,hgk,hst,hal,hcf⟩:=hrel;have HS:=hid hst;have HA:=hid hal;have H7:=hid hcf;have hbl:=hst.fr.below Hp.big Hp.lo;have H0:=hid (HB.trans (hbl.mono As.o));have Hg:=hid (Hm.low hbl (by have:=Ht.o;omega));have He:=hid (Hj.low hbl (by have:=Ht.o;omega));clear hst hal hcf hbl;by_cases hk:k<K2
   ·have hk2:(k:Int)<(len2:Int):=by omega
    have hk30:(k:Int)<30:=by omega
    obtain⟨b,off,rfl,hblt,hcs⟩:=(HD.below H0.o).2 (by omega);obtain⟨⟨d0,d1,d2,d3⟩,hin⟩:=hcs k (by omega);clear hcs;have H8:=tdo_any w3.heap.size tk (parX x) p (21*(k:Int)) (xs k) wr HS.pa HA.o HP.o (by omega) (by omega) hin;rw[HS.eB]at H8;go_wp2_with fail;refine H8.mono ?_;rintro e w5⟨rfl,t5,k5⟩;have Hl:=hid (HS.trans k5);clear H8 k5;have Hz:=hid ((HA.doD HP.o (xs k) (by omega) (by omega)).2);clear d0 d1 d2 d3;have Hk:=hid (H7.doD (cf_kept (kfX x)) HA.o HP.o (by omega) (by omega) (xs k));obtain⟨q,hq⟩:∃q,q=(p.doD (xs k)).1:=⟨_,rfl⟩;rw[<-hq]at Hl Hz Hk;clear hq;have hbl:=Hl.fr.below Hp.big Hp.lo;have H5:=hid (Hm.low hbl (by have:=Ht.o;omega));have H6:=hid (Hj.low hbl (by have:=Ht.o;omega));clear hbl;obtain⟨g1,s1⟩:=held_bd Hz.run.1.a (k:=x.keep) (by rw[show q.a.c.cf=kfA x from Hk.o false];rfl);obtain⟨g2,s2⟩:=held_bd Hz.run.1.b (k:=x.keep) (by rw[show q.b.c.cf=kfB x from Hk.o true];rfl);have H1:=hid g1;have H2:=hid g2;clear g1 g2;have H9:=hid (H5.cell 5 (.int .i64 (40+pickV x.keep 400)) rfl);have Aa:=hid (H6.cell 5 (.int .i64 (40+pickV x.keep 400)) rfl);obtain⟨sa,hsa⟩:∃sa,sa=q.a.c.space:=⟨_,rfl⟩;obtain⟨sb,hsb⟩:∃sb,sb=q.b.c.space:=⟨_,rfl⟩;rw[<-hsa]at s1;rw[<-hsb]at s2;have Ay:=hid hsa;have Az:=hid hsb;clear hsa hsb;obtain⟨ka,hka⟩:∃ka,ka=40+pickV x.keep 400:=⟨_,rfl⟩;obtain⟨kb,hkb⟩:∃kb,kb=40+pickV x.keep 400:=⟨_,rfl⟩;rw[<-hka]at s1 H9;rw[<-hkb]at s2 Aa;clear hka hkb;obtain⟨s3,s4⟩:=s1;obtain⟨s5,s6⟩:=s2
    go_upto_region 10 with fail
    obtain⟨fA,hfA⟩:∃fA,fA=t5.fa:=⟨_,rfl⟩;obtain⟨fB,hfB⟩:∃fB,fB=t5.fb:=⟨_,rfl⟩;have K10:=hid (show ∀W',Below w5.heap.size w5 W'->W'.cell? ⟨t.B,0,none⟩=some (.pointer (some ⟨fA.C,0,none⟩))/\W'.cell? ⟨t.B,6,none⟩=some (.pointer (some ⟨fB.C,0,none⟩))/\W'.cell? ⟨NA,5,none⟩=some (.int .i64 ka)/\W'.cell? ⟨NA+1,5,none⟩=some (.int .i64 kb)from fun W' hb=>⟨(hb.cell (p:=⟨t.B,0,none⟩) (block_lt_of_cell (Hl.cell 0 _ rfl))).trans (by rw[hfA];exact Hl.cell 0 _ rfl),(hb.cell (p:=⟨t.B,6,none⟩) (block_lt_of_cell (Hl.cell 6 _ rfl))).trans (by rw[hfB];exact Hl.cell 6 _ rfl),(hb.cell (p:=⟨NA,5,none⟩) (block_lt_of_cell H9.o)).trans H9.o,(hb.cell (p:=⟨NA+1,5,none⟩) (block_lt_of_cell Aa.o)).trans Aa.o⟩);have Hu:=hid (show CnAt fA q.a.c w5 from by rw[hfA];exact Hl.pa.a);have Hv:=hid (show CnAt fB q.b.c w5 from by rw[hfB];exact Hl.pa.b);clear hfA hfB;have Ha:=hid (bd w5);refine wpB (fun W:World=>W.cell? ⟨t.B,0,none⟩=some (.pointer (some ⟨fA.C,0,none⟩))/\W.cell? ⟨t.B,6,none⟩=some (.pointer (some ⟨fB.C,0,none⟩))/\W.cell? ⟨NA,5,none⟩=some (.int .i64 ka)/\W.cell? ⟨NA+1,5,none⟩=some (.int .i64 kb)) (K10.out _ Ha.o) fun hZ=>?_;refine wpT4 0 1 2 3 ?_;refine wpT4 4 5 7 8 ?_;refine wpR 6 fun Kq hKq=> ?_;go_simp;refine(tspace_any fA q.a.c _ (Hu.below Ha.o) H1.1 H1.2).mono ?_;rintro e wx⟨rfl,hb⟩;rw[<-Ay.o];replace Ha:=hid (Ha.trans (hb.mono Ha.size));clear hb;go_simp;refine hKq.out _ _ (K10.out _ Ha.o) ?_;clear hKq Kq hZ;refine fun hZ=>wpA ?_;refine wpT 9 (v:=.bool false) ?_ (hy:=by intro _ _;go_simp;(try first | omega | (rw[dn];omega)));refine wpT4 10 11 12 13 ?_;refine wpT4 14 15 16 18 ?_;refine wpT 19 ?_;refine wpR 17 fun Kq hKq=> ?_;go_simp;refine(tspace_any fB q.b.c _ (Hv.below Ha.o) H2.1 H2.2).mono ?_;rintro e wx⟨rfl,hb⟩;rw[<-Az.o];replace Ha:=hid (Ha.trans (hb.mono Ha.size));clear hb;go_simp;refine hKq.out _ _ (K10.out _ Ha.o) ?_;clear hKq Kq hZ;refine fun hZ=>wpA ?_;refine wpT 20 (v:=.bool false) ?_ (hy:=by intro _ _;go_simp;(try first | omega | (rw[dn];omega)));refine wpT4 21 22 23 24 ?_;refine wpT4 25 26 27 28 ?_;refine wpR 29 fun Kq hKq=> ?_;go_simp;refine(tspace_any fA q.a.c _ (Hu.below Ha.o) H1.1 H1.2).mono ?_;rintro e wx⟨rfl,hb⟩;rw[<-Ay.o];replace Ha:=hid (Ha.trans (hb.mono Ha.size));clear hb;go_simp;refine hKq.out _ _ (K10.out _ Ha.o) ?_;clear hKq Kq hZ;refine fun hZ=>wpA ?_;refine wpT 30 (v:=.bool false) ?_ (hy:=by intro _ _;go_simp;(try first | omega | (rw[dn];omega)));refine wpT4 31 32 33 34 ?_;refine wpT4 35 36 37 38 ?_;refine wpR 39 fun Kq hKq=> ?_;go_simp;refine(tspace_any fB q.b.c _ (Hv.below Ha.o) H2.1 H2.2).mono ?_;rintro e wx⟨rfl,hb⟩;rw[<-Az.o];replace Ha:=hid (Ha.trans (hb.mono Ha.size));clear hb;go_simp;refine hKq.out _ _ (K10.out _ Ha.o) ?_;clear hKq Kq hZ;refine fun hZ=>wpA ?_;refine wpT 40 (v:=.bool false) ?_ (hy:=by intro _ _;go_simp;(try first | omega | (rw[dn];omega)));refine wpT 41 ?_;refine wpD ?_ _;clear hZ;have Ba:=hid (Hl.bel Ha.o);go_wp2_with fail
    go_roundg (gk-1)
    case measure=>omega
    case rel=>exact⟨k+1,t5,_,by first | rfl | go_num,by omega,Ba.o,by have h:=Hz.o;rw[show 21*(k:Int)+21=21*((k+1:Nat):Int) by omega]at h;exact h,Hk.o⟩
   have hge:k=K2:=by omega
   by_cases hk2:(k:Int)<(len2:Int)
   ·have hk30:¬(k:Int)<30:=by omega
    go_wp2_with fail
    go_meet
    case rel=>exact⟨tk,p,_,HS.o,HA.o,by omega,by omega⟩
   go_wp2_with fail
   go_meet
   case rel=>exact⟨tk,p,_,HS.o,HA.o,by omega,by omega⟩
 case rest =>
  obtain⟨tk,p,n0,hst,hal,hn1,hn2⟩:=hcut;have HS:=hid hst;have HA:=hid hal;have hbl:=hst.fr.below Hp.big Hp.lo;have H0:=hid (HB.trans (hbl.mono As.o));have Hg:=hid (Hm.low hbl (by have:=Ht.o;omega));have He:=hid (Hj.low hbl (by have:=Ht.o;omega));clear hst hal hbl;obtain⟨wE,hwE⟩:∃wE,wE=wc:=⟨_,rfl⟩;subst hwE;have hlA:NA<wE.heap.size:=Hg.lt;have hlB:NA+1<wE.heap.size:=He.lt;have n1:=Hg.cell 2 (.int .i64 (kfA x).iss) rfl;have n2:=Hg.cell 4 (.int .i64 (kfA x).room) rfl;have n3:=He.cell 2 (.int .i64 (kfB x).iss) rfl;have n4:=He.cell 4 (.int .i64 (kfB x).room) rfl
  go_upto_region 15 with fail
  change Code.wp _ _ _ _ (((wE.alloc (.cells ([.int .i64 (kfB x).room,.int .i64 (kfA x).room]:List Value).toArray 55)).alloc (.cells ([.int .i64 (kfA x).iss,.int .i64 (kfB x).iss]:List Value).toArray 55)).alloc (.cells ([.int .i64 (kfA x).room,.int .i64 (kfB x).room]:List Value).toArray 55));have Hn:=hid (three_new wE 55 [.int .i64 (kfB x).room,.int .i64 (kfA x).room] [.int .i64 (kfA x).iss,.int .i64 (kfB x).iss] [.int .i64 (kfA x).room,.int .i64 (kfB x).room]);clear n1 n2 n3 n4 hlA hlB;have Ap:=hid (block_lt_of_cell (HS.cell 16 tk.vL rfl));have Ax:=hid (HS.bel Hn.2.2.2);have Af:=hid (show NA+1<wE.heap.size from He.lt);clear He;obtain⟨EB,hEB⟩:∃EB,EB=wE.heap.size:=⟨_,rfl⟩;have An:=hid hEB;have Hh:=hid (show EB<=wE.heap.size from by rw[hEB];exact Nat.le_refl _);rw[<-hEB]at Hn Ap Af|-;clear hEB;generalize (((wE.alloc (.cells ([.int .i64 (kfB x).room,.int .i64 (kfA x).room]:List Value).toArray 55)).alloc (.cells ([.int .i64 (kfA x).iss,.int .i64 (kfB x).iss]:List Value).toArray 55)).alloc (.cells ([.int .i64 (kfA x).room,.int .i64 (kfB x).room]:List Value).toArray 55))=w8 at Hn Ax|-;have A4:=hid Hn.1;have A5:=hid Hn.2.1;have A6:=hid Hn.2.2.1;have A1:=hid (show Below EB wE w8 from Hn.2.2.2);clear Hn;obtain⟨M,hM,how⟩:=HS.pa.log;obtain⟨aL,capL,hvL⟩:=how.val';have HV:=hid hvL;have A9:=hid how;have hFT:=HA.run.1;have hbg:M.length<=1000000000000:=by have h1:=hFT.llen;rw[<-hM,List.length_map]at h1;omega
  have A8:=hid (show ∀y∈M,y.1.s.Ok from fun y hy=>hFT.log y.1 (by rw[<-hM];exact List.mem_map_of_mem hy));have A3:=hid (show ∀j,(hj:j<M.length)->Pr.Chk (parX x) ((M.take j).map (·.1)) M[j].1 from fun j hj=>HA.pv.g _ _ ((M.drop (j+1)).map (·.1)) (by rw[<-hM,<-List.map_cons,<-List.map_append];exact congrArg _ (by rw[List.getElem_cons_drop hj,List.take_append_drop])));clear hM how hvL hFT Ax;have Bb:=hid (show wE.cell? ⟨t.B,16,none⟩=some (.slice aL M.length capL)from by have:=HS.cell 16 tk.vL rfl;rwa [HV.o]at this);have Aq:=hid (Hg.cell 3 (.int .i64 (kfA x).mss) rfl);have H3:=hid (show In64 (kfA x).iss/\In64 (kfB x).iss from⟨by have:=numV_bd x.issA;show In64 (numV x.issA);unfold In64;omega,by have:=numV_bd x.issB;show In64 (numV x.issB);unfold In64;omega⟩);have Bc:=hid (show t.B<EB from Ap.o);go_wp2_with fail
  go_loopg [16] M.length (fun g iv wr=>∃(j:Nat) (e0 e1:Int),iv= .int .i64 (j:Int)/\g+j=M.length/\Below EB wE wr/\RowB EB 55 [.int .i64 e0,.int .i64 e1] wr/\RowB (EB+1) 55 [.int .i64 (kfA x).iss,.int .i64 (kfB x).iss] wr/\RowB (EB+2) 55 [.int .i64 (kfA x).room,.int .i64 (kfB x).room] wr/\Pr.Ed (parX x) ((M.take j).map (·.1)) e0 e1)
  case atStart=>exact⟨0,_,_,rfl,by omega,A1.o,A4.o,A5.o,A6.o,ed0 x⟩
  case round =>
   obtain⟨j,e0,e1,rfl,hgj,hb,r0,r1,r2,hed⟩:=hrel;have HQ:=hid hb;have At:=hid r0;have Au:=hid r1;have Av:=hid r2;have Ho:=hid hed;have HW:=hid (A9.below (by have:=hb;rwa [An.o]at this));have Hi:=hid ((hb.cell (p:=⟨t.B,16,none⟩) Bc.o).trans Bb.o);clear hb r0 r1 r2 hed;by_cases hj:j<M.length
   ·have hji:(j:Int)<(M.length:Int):=by omega
    obtain⟨g,cg,hvg,hgl,hcs⟩:=HW.at hj;obtain⟨rfl,rfl⟩:aL=some ⟨g,0,none⟩/\capL=cg:=by have h1:=HV.o;rw[hvg]at h1;cases h1;exact⟨rfl,rfl⟩
    have Hc:=hid (HW.2 M[j] (List.getElem_mem hj));have Hf:=hid (A8.o M[j] (List.getElem_mem hj));have Hb:=hid (A3.o j hj);have Hx:=hid (show(M.take (j+1)).map (·.1)=(M.take j).map (·.1)++[M[j].1]from by rw[<-List.take_append_getElem hj,List.map_append];rfl);obtain⟨x1,hx1⟩:∃x1,x1=M[j]:=⟨_,rfl⟩;rw[<-hx1]at hcs Hc Hf Hb Hx;clear hx1 hvg;have Hy:=hid (hcs 0 (by decide) _ rfl);have Aw:=hid (fl_seg hcs);clear hcs;have H4:=hid (show In64 x1.1.s.sq/\In64 x1.1.s.ak from⟨by have:=Hf.sq;unfold In64;omega,by have:=Hf.ak;unfold In64;omega⟩);have c17:=Hi.o
    go_upto_region 19 with(refine wpList_load_mid rfl 43 _ rfl g (j*16+3) rfl (sgL (x1.1.s,x1.2.1,x1.2.2)) _ Aw.o Tryz.underlying43 rfl sg_size ?_;(try dsimp only[sgL]))
    clear Aw c17;change Code.wp _ _ _ _ (wr.alloc (.cells (sgL (x1.1.s,x1.2.1,x1.2.2)).toArray 43));have hb6:=(Below.refl wr.heap.size wr).alloc (Nat.le_refl _) (.cells (sgL (x1.1.s,x1.2.1,x1.2.2)).toArray 43);replace Hc:=hid (Hc.keep hb6.size (SpanKept.below hb6));have HL:=hid (show Lr wr.heap.size EB (x1.1.s,x1.2.1,x1.2.2) _ _ _ wE (wr.alloc (.cells (sgL (x1.1.s,x1.2.1,x1.2.2)).toArray 43))from⟨RowB.new wr 43 (sgL (x1.1.s,x1.2.1,x1.2.2)),At.below hb6,Au.below hb6,Av.below hb6,HQ.trans (hb6.mono (Nat.le_trans Hh.o HQ.size))⟩);replace Hy:=hid ((hb6.cell (p:=⟨g,j*16+0,none⟩) hgl).trans Hy.o);have Hr:=hid ((hb6.cell (p:=⟨t.B,16,none⟩) (block_lt_of_cell Hi.o)).trans Hi.o);clear hb6 HW Hi At Au Av HQ;generalize hF:wr.heap.size=F at HL|-;generalize wr.alloc (.cells (sgL (x1.1.s,x1.2.1,x1.2.2)).toArray 43)=w6 at HL Hc Hy Hr|-;clear hF hgl
    rcases hd:x1.1.dst
    ·have z0:w6.cell? ⟨g,j*16,none⟩=some (.int .i64 0):=by have:=Hy.o;rw[hd]at this;exact this
     have c17:=Hr.o
     go_upto_region 20 with fail
     clear z0 c17;obtain⟨O,hO⟩:∃O,O=rAhead x1.1.s.sq (rAdd (kfB x).iss 1):=⟨_,rfl⟩;have Ag:=hid (show Pr.offV (parX x) x1.1=O from by unfold Pr.offV;rw[hO,hd];rfl);have hO2:=rAhead_bd x1.1.s.sq (rAdd (kfB x).iss 1);rw[<-hO]at hO2;have HO:=hid hO.symm;clear hO;obtain⟨hO3,hO4⟩:=hO2;have y2:=HL.f.cell 2 (.int .i64 x1.1.s.sq) rfl;have y1:=HL.b.cell 1 (.int .i64 (kfB x).iss) rfl;have hbd:=bd w6;refine wpB (fun W:World=>W.cell? ⟨F,2,none⟩=some (.int .i64 x1.1.s.sq)/\W.cell? ⟨EB+1,1,none⟩=some (.int .i64 (kfB x).iss)) (⟨y2,y1⟩) fun hZ=>?_;clear y2 y1;replace HL:=hid (HL.below Hh.o hbd);replace Hc:=hid (Hc.keep (Nat.le_refl _) (.refl _):BlIn w6.drew x1.2.1 x1.1.s.bl);clear hbd;generalize w6.drew=w7 at HL Hc hZ|-;refine wpT4 0 1 2 3 ?_;refine wpT 4 ?_;refine wpR 5 fun Kq hKq=> ?_;go_simp;refine(radd_any (kfB x).iss 1 _ H3.2 in1).mono ?_;rintro e wx⟨rfl,rfl⟩;go_simp;refine hKq.out _ _ (hZ) ?_;clear hKq Kq hZ;refine fun hZ=>wpA ?_;refine wpR 6 fun Kq hKq=> ?_;go_simp;refine(rahead_any x1.1.s.sq (rAdd (kfB x).iss 1) _ H4.1 (rAdd_in _ _)).mono ?_;rintro e wx⟨rfl,rfl⟩;rw[HO.o];go_simp;refine hKq.out _ _ (hZ) ?_;clear hKq Kq hZ;refine fun hZ=>wpA ?_;refine wpT 7 ?_;refine wpD ?_ _;clear hZ
     go_wp2_with (refine wpList_load_mid rfl 43 _ rfl F 0 rfl (sgL (x1.1.s,x1.2.1,x1.2.2)) _ HL.f.range Tryz.underlying43 rfl sg_size ?_;(try dsimp only[sgL]))
     refine(segValid_any x1.1.s w7.heap.size x1.2.1 x1.2.2 w7 Hc.1 (Nat.le_refl _)).mono ?_;rintro e w9⟨rfl,hb⟩;rw[(Sg.okB_iff _).2 Hf.o];replace HL:=hid (HL.below Hh.o hb);clear hb Hc
     go_upto_region 22 with fail
     obtain⟨ST,hST⟩:∃ST,ST=(⟨x1.1.s.s.toArray⟩:ByteArray):=⟨_,rfl⟩;have hsz:(ST.size:Int)=x1.1.s.s.length:=by rw[hST];show((x1.1.s.s.toArray.size:Nat):Int)=_;simp
     obtain⟨mm,hmm⟩:∃mm,mm=(kfA x).mss:=⟨_,rfl⟩;obtain⟨rm,hrm⟩:∃rm,rm=(kfB x).room:=⟨_,rfl⟩;have hl1:(ST.size:Int)<=mm:=by rw[hsz,hmm];exact Hb.len
     have hl2:x1.1.s.win<=rm:=by rw[hrm];have:=Hb.win;rw[hd]at this;exact this
     have hst3:(ST.size:Int)<=1024:=by rw[hsz];have:=Hf.slen;omega
     have y12:w9.cell? ⟨F,12,none⟩=some (.string ST):=by rw[hST];exact HL.f.cell 12 _ rfl
     have y8:=HL.f.cell 8 (.int .i64 x1.1.s.win) rfl;have m3:w9.cell? ⟨NA,3,none⟩=some (.int .i64 mm):=by rw[hmm];exact(HL.q.cell (p:=⟨NA,3,none⟩) (by have:=Af.o;show NA<EB;omega)).trans Aq.o
     have y2:w9.cell? ⟨EB+2,1,none⟩=some (.int .i64 rm):=by rw[hrm];exact HL.c.cell 1 _ rfl
     have Ak:=hid hST;have Hq:=hid hsz;clear hST hsz hmm hrm;generalize hwn:x1.1.s.win=wn at y8 hl2;have Hs:=hid hwn;clear hwn;have hbd:=bd w9;refine wpB (fun W:World=>W.cell? ⟨F,12,none⟩=some (.string ST)/\W.cell? ⟨F,8,none⟩=some (.int .i64 wn)/\W.cell? ⟨NA,3,none⟩=some (.int .i64 mm)/\W.cell? ⟨EB+2,1,none⟩=some (.int .i64 rm)) (⟨y12,y8,m3,y2⟩) fun hZ=>?_;clear y12 y8 m3 y2;replace HL:=hid (HL.below Hh.o hbd);clear hbd;generalize w9.drew=w10 at HL hZ|-;refine wpT4 0 1 2 3 ?_;refine wpT4 4 5 6 7 ?_;refine wpT 8 (v:=.bool false) ?_ (hy:=by intro _ _;go_simp;(try first | omega | (rw[dn];omega)));refine wpT4 9 10 11 12 ?_;refine wpT2 13 14 ?_;refine wpT 15 ?_;refine wpT 16 (v:=.bool false) ?_ (hy:=by intro _ _;go_simp;(try first | omega | (rw[dn];omega)));refine wpT 17 ?_;refine wpD ?_ _;clear hZ
     go_upto_region 24 with fail
     have y12:w10.cell? ⟨F,12,none⟩=some (.string ST):=by rw[Ak.o];exact HL.f.cell 12 _ rfl
     have y0:=HL.a.cell 1 (.int .i64 e1) rfl;have Ab:=hid (show x1.1.s.s≠[]->O+(ST.size:Int)<=e1+1 from fun hs=>by have:=Hb.law Ho.o HP.o Hf.o hs;rw[hd,Ag.o]at this;rw[Hq.o];exact this);obtain⟨-,he1,he2⟩:=Ho.of true;replace he1:0<=e1:=he1;replace he2:e1<=9000000000:=he2
     go_cut [181]from 166 to 180 (fun v wx=>v= .bool false/\wx=w10.drew)
     case first =>
      by_cases hs:x1.1.s.s=[]
      ·have hs0:(ST.size:Int)=0:=by rw[Hq.o,hs];rfl
       refine wpB (fun W:World=>W.cell? ⟨F,12,none⟩=some (.string ST)/\W.cell? ⟨EB,1,none⟩=some (.int .i64 e1)) (⟨y12,y0⟩) fun hZ=>?_;refine wpT2 0 1 ?_;refine wpT 2 ?_;refine wpT 3 (v:=.bool false) ?_ (hy:=by intro _ _;go_simp;(try first | omega | (rw[dn];omega)));refine wpT 4 ?_;refine wpK 5 ?_;refine wpK 6 ?_;refine wpK 7 ?_;refine wpK 8 ?_;refine wpK 9 ?_;refine wpK 10 ?_;refine wpK 11 ?_;refine wpK 12 ?_;refine wpK 13 ?_;refine wpK 14 ?_;refine wpT 15 ?_;refine wpD ?_ _;clear hZ;go_wp2_with fail
       go_meet
       case rel=>exact⟨rfl,rfl⟩
      have hs0:0<(ST.size:Int):=by rw[Hq.o];have:=List.length_pos_iff.2 hs;omega
      have hlw:=Ab.o hs;refine wpB (fun W:World=>W.cell? ⟨F,12,none⟩=some (.string ST)/\W.cell? ⟨EB,1,none⟩=some (.int .i64 e1)) (⟨y12,y0⟩) fun hZ=>?_;refine wpT2 0 1 ?_;refine wpT 2 ?_;refine wpT 3 (v:=.bool true) ?_ (hy:=by intro _ _;go_simp;(try first | omega | (rw[decide_eq_true_iff];omega)));refine wpT4 4 5 6 7 ?_;refine wpT 8 ?_;refine wpT 9 (v:=.int .i64 (O+(ST.size:Int))) ?_ (hy:=by intro _ _;go_simp;(first | rfl | rw[IntWalk.i64_in _ (by omega)]));refine wpT2 10 11 ?_;refine wpT 12 ?_;refine wpT 13 (v:=.int .i64 (e1+1)) ?_ (hy:=by intro _ _;go_simp;(first | rfl | rw[IntWalk.i64_in _ (by omega)]));refine wpT 14 (v:=.bool false) ?_ (hy:=by intro _ _;go_simp;(try first | omega | (rw[dn];omega)));refine wpT 15 ?_;refine wpD ?_ _;clear hZ hlw;go_wp2_with fail
      go_meet
      case rel=>exact⟨rfl,rfl⟩
     case rest =>
      obtain⟨rfl,rfl⟩:=hcut;have hbd:=bd w10;clear y12 y0;replace HL:=hid (HL.below Hh.o hbd);clear hbd;generalize w10.drew=w11 at HL|-
      go_upto_region 26 with fail
      clear he1 he2;have y7:=HL.f.cell 7 (.bool x1.1.s.has) rfl;have y4:=HL.f.cell 4 (.bool x1.1.s.syn) rfl;have Hw:=hid (Ho.next HP.o Hf.o (f:=x1.1))
      rcases hhv:x1.1.s.has
      all_goals rcases hsv:x1.1.s.syn
      all_goals rw[hhv]at y7
      all_goals rw[hsv]at y4
      all_goals have Hd:=hid (And.intro hhv hsv)
      all_goals clear hhv hsv
      rotate_left 2
      focus
       go_upto_region 27 with fail
       clear y7 y4;obtain⟨U,hU⟩:∃U,U=rAhead x1.1.s.ak (rAdd (kfA x).iss 1):=⟨_,rfl⟩;have Am:=hid (show Pr.toldV (parX x) x1.1=U+wn from by unfold Pr.toldV;rw[hU,hd,Hs.o];rfl);have hU2:=rAhead_bd x1.1.s.ak (rAdd (kfA x).iss 1);rw[<-hU]at hU2;have HU:=hid hU.symm;clear hU;obtain⟨hU3,hU4⟩:=hU2;have hw5:0<=wn/\wn<=65535:=by rw[<-Hs.o];exact Hf.win
       obtain⟨hw6,hw7⟩:=hw5;have y3:=HL.f.cell 3 (.int .i64 x1.1.s.ak) rfl;have y8:w11.cell? ⟨F,8,none⟩=some (.int .i64 wn):=by rw[<-Hs.o];exact HL.f.cell 8 _ rfl
       have y1:=HL.b.cell 0 (.int .i64 (kfA x).iss) rfl;have hbd:=bd w11;refine wpB (fun W:World=>W.cell? ⟨F,3,none⟩=some (.int .i64 x1.1.s.ak)/\W.cell? ⟨F,8,none⟩=some (.int .i64 wn)/\W.cell? ⟨EB+1,0,none⟩=some (.int .i64 (kfA x).iss)) (⟨y3,y8,y1⟩) fun hZ=>?_;clear y3 y8 y1;replace HL:=hid (HL.below Hh.o hbd);clear hbd;generalize w11.drew=w12 at HL hZ|-;refine wpT2 0 1 ?_;refine wpT 2 ?_;refine wpT 3 (v:=.int .i64 0) ?_ (hy:=by intro w hSw;(try dsimp only at hSw);go_simp;(try (first | rfl | decide)));refine wpT4 4 5 8 9 ?_;refine wpR 6 fun Kq hKq=> ?_;go_simp;refine(radd_any (kfA x).iss 1 _ H3.1 in1).mono ?_;rintro e wx⟨rfl,rfl⟩;go_simp;refine hKq.out _ _ (hZ) ?_;clear hKq Kq hZ;refine fun hZ=>wpA ?_;refine wpR 7 fun Kq hKq=> ?_;go_simp;refine(rahead_any x1.1.s.ak (rAdd (kfA x).iss 1) _ H4.2 (rAdd_in _ _)).mono ?_;rintro e wx⟨rfl,rfl⟩;rw[HU.o];go_simp;refine hKq.out _ _ (hZ) ?_;clear hKq Kq hZ;refine fun hZ=>wpA ?_;refine wpT 10 (v:=.int .i64 (U+wn)) ?_ (hy:=by intro _ _;go_simp;(first | rfl | rw[IntWalk.i64_in _ (by omega)]));refine wpT 11 ?_;refine wpD ?_ _;clear hZ;obtain⟨-,he1,he2⟩:=Ho.of false;replace he1:0<=e0:=he1;replace he2:e0<=9000000000:=he2
       skip
       have y0:=HL.a.cell 0 (.int .i64 e0) rfl;have y9:=HL.a.free 0;go_wp2_with fail;have Ai:=hid (HL.q.setCell (p:=⟨EB,0,none⟩) (Nat.le_refl EB) (.int .i64 (max e0 (U+wn))));have Ac:=hid (HL.a.set 0 (.int .i64 (max e0 (U+wn))));have Ad:=hid (HL.b.other (C:=EB) (by omega) 0 (.int .i64 (max e0 (U+wn))));have Ae:=hid (HL.c.other (C:=EB) (by omega) 0 (.int .i64 (max e0 (U+wn))))
       go_roundg (gk-1)
       case measure=>omega
       case rel=>exact⟨j+1,(max e0 (U+wn)),e1,by first | rfl | go_num,by omega,Ai.o,Ac.o,Ad.o,Ae.o,by rw[Hx.o];have:=Hw.o;rw[hd,Am.o,Hd.1,Hd.2]at this;simpa using this⟩
      all_goals
       go_wp2_with fail
       go_roundg (gk-1)
       case measure=>omega
       case rel=>exact⟨j+1,e0,e1,by first | rfl | go_num,by omega,HL.q,HL.a,HL.b,HL.c,by rw[Hx.o];have:=Hw.o;rw[if_neg (fun h=>by have:=h.2;rw[Hd.1,Hd.2]at this;simp at this),if_neg (fun h=>by have:=h.2;rw[Hd.1,Hd.2]at this;simp at this)]at this;exact this⟩
    have z0:w6.cell? ⟨g,j*16,none⟩=some (.int .i64 1):=by have:=Hy.o;rw[hd]at this;exact this
    have c17:=Hr.o
    go_upto_region 20 with fail
    clear z0 c17;obtain⟨O,hO⟩:∃O,O=rAhead x1.1.s.sq (rAdd (kfA x).iss 1):=⟨_,rfl⟩;have Ag:=hid (show Pr.offV (parX x) x1.1=O from by unfold Pr.offV;rw[hO,hd];rfl);have hO2:=rAhead_bd x1.1.s.sq (rAdd (kfA x).iss 1);rw[<-hO]at hO2;have HO:=hid hO.symm;clear hO;obtain⟨hO3,hO4⟩:=hO2;have y2:=HL.f.cell 2 (.int .i64 x1.1.s.sq) rfl;have y1:=HL.b.cell 0 (.int .i64 (kfA x).iss) rfl;have hbd:=bd w6;refine wpB (fun W:World=>W.cell? ⟨F,2,none⟩=some (.int .i64 x1.1.s.sq)/\W.cell? ⟨EB+1,0,none⟩=some (.int .i64 (kfA x).iss)) (⟨y2,y1⟩) fun hZ=>?_;clear y2 y1;replace HL:=hid (HL.below Hh.o hbd);replace Hc:=hid (Hc.keep (Nat.le_refl _) (.refl _):BlIn w6.drew x1.2.1 x1.1.s.bl);clear hbd;generalize w6.drew=w7 at HL Hc hZ|-;refine wpT4 0 1 2 3 ?_;refine wpT 4 ?_;refine wpR 5 fun Kq hKq=> ?_;go_simp;refine(radd_any (kfA x).iss 1 _ H3.1 in1).mono ?_;rintro e wx⟨rfl,rfl⟩;go_simp;refine hKq.out _ _ (hZ) ?_;clear hKq Kq hZ;refine fun hZ=>wpA ?_;refine wpR 6 fun Kq hKq=> ?_;go_simp;refine(rahead_any x1.1.s.sq (rAdd (kfA x).iss 1) _ H4.1 (rAdd_in _ _)).mono ?_;rintro e wx⟨rfl,rfl⟩;rw[HO.o];go_simp;refine hKq.out _ _ (hZ) ?_;clear hKq Kq hZ;refine fun hZ=>wpA ?_;refine wpT 7 ?_;refine wpD ?_ _;clear hZ
    go_wp2_with (refine wpList_load_mid rfl 43 _ rfl F 0 rfl (sgL (x1.1.s,x1.2.1,x1.2.2)) _ HL.f.range Tryz.underlying43 rfl sg_size ?_;(try dsimp only[sgL]))
    refine(segValid_any x1.1.s w7.heap.size x1.2.1 x1.2.2 w7 Hc.1 (Nat.le_refl _)).mono ?_;rintro e w9⟨rfl,hb⟩;rw[(Sg.okB_iff _).2 Hf.o];replace HL:=hid (HL.below Hh.o hb);clear hb Hc
    go_upto_region 22 with fail
    obtain⟨ST,hST⟩:∃ST,ST=(⟨x1.1.s.s.toArray⟩:ByteArray):=⟨_,rfl⟩;have hsz:(ST.size:Int)=x1.1.s.s.length:=by rw[hST];show((x1.1.s.s.toArray.size:Nat):Int)=_;simp
    obtain⟨mm,hmm⟩:∃mm,mm=(kfA x).mss:=⟨_,rfl⟩;obtain⟨rm,hrm⟩:∃rm,rm=(kfA x).room:=⟨_,rfl⟩;have hl1:(ST.size:Int)<=mm:=by rw[hsz,hmm];exact Hb.len
    have hl2:x1.1.s.win<=rm:=by rw[hrm];have:=Hb.win;rw[hd]at this;exact this
    have hst3:(ST.size:Int)<=1024:=by rw[hsz];have:=Hf.slen;omega
    have y12:w9.cell? ⟨F,12,none⟩=some (.string ST):=by rw[hST];exact HL.f.cell 12 _ rfl
    have y8:=HL.f.cell 8 (.int .i64 x1.1.s.win) rfl;have m3:w9.cell? ⟨NA,3,none⟩=some (.int .i64 mm):=by rw[hmm];exact(HL.q.cell (p:=⟨NA,3,none⟩) (by have:=Af.o;show NA<EB;omega)).trans Aq.o
    have y2:w9.cell? ⟨EB+2,0,none⟩=some (.int .i64 rm):=by rw[hrm];exact HL.c.cell 0 _ rfl
    have Ak:=hid hST;have Hq:=hid hsz;clear hST hsz hmm hrm;generalize hwn:x1.1.s.win=wn at y8 hl2;have Hs:=hid hwn;clear hwn;have hbd:=bd w9;refine wpB (fun W:World=>W.cell? ⟨F,12,none⟩=some (.string ST)/\W.cell? ⟨F,8,none⟩=some (.int .i64 wn)/\W.cell? ⟨NA,3,none⟩=some (.int .i64 mm)/\W.cell? ⟨EB+2,0,none⟩=some (.int .i64 rm)) (⟨y12,y8,m3,y2⟩) fun hZ=>?_;clear y12 y8 m3 y2;replace HL:=hid (HL.below Hh.o hbd);clear hbd;generalize w9.drew=w10 at HL hZ|-;refine wpT4 0 1 2 3 ?_;refine wpT4 4 5 6 7 ?_;refine wpT 8 (v:=.bool false) ?_ (hy:=by intro _ _;go_simp;(try first | omega | (rw[dn];omega)));refine wpT4 9 10 11 12 ?_;refine wpT2 13 14 ?_;refine wpT 15 ?_;refine wpT 16 (v:=.bool false) ?_ (hy:=by intro _ _;go_simp;(try first | omega | (rw[dn];omega)));refine wpT 17 ?_;refine wpD ?_ _;clear hZ
    go_upto_region 24 with fail
    have y12:w10.cell? ⟨F,12,none⟩=some (.string ST):=by rw[Ak.o];exact HL.f.cell 12 _ rfl
    have y0:=HL.a.cell 0 (.int .i64 e0) rfl;have Ab:=hid (show x1.1.s.s≠[]->O+(ST.size:Int)<=e0+1 from fun hs=>by have:=Hb.law Ho.o HP.o Hf.o hs;rw[hd,Ag.o]at this;rw[Hq.o];exact this);obtain⟨-,he1,he2⟩:=Ho.of false;replace he1:0<=e0:=he1;replace he2:e0<=9000000000:=he2
    go_cut [181]from 166 to 180 (fun v wx=>v= .bool false/\wx=w10.drew)
    case first =>
     by_cases hs:x1.1.s.s=[]
     ·have hs0:(ST.size:Int)=0:=by rw[Hq.o,hs];rfl
      refine wpB (fun W:World=>W.cell? ⟨F,12,none⟩=some (.string ST)/\W.cell? ⟨EB,0,none⟩=some (.int .i64 e0)) (⟨y12,y0⟩) fun hZ=>?_;refine wpT2 0 1 ?_;refine wpT 2 ?_;refine wpT 3 (v:=.bool false) ?_ (hy:=by intro _ _;go_simp;(try first | omega | (rw[dn];omega)));refine wpT 4 ?_;refine wpK 5 ?_;refine wpK 6 ?_;refine wpK 7 ?_;refine wpK 8 ?_;refine wpK 9 ?_;refine wpK 10 ?_;refine wpK 11 ?_;refine wpK 12 ?_;refine wpK 13 ?_;refine wpK 14 ?_;refine wpT 15 ?_;refine wpD ?_ _;clear hZ;go_wp2_with fail
      go_meet
      case rel=>exact⟨rfl,rfl⟩
     have hs0:0<(ST.size:Int):=by rw[Hq.o];have:=List.length_pos_iff.2 hs;omega
     have hlw:=Ab.o hs;refine wpB (fun W:World=>W.cell? ⟨F,12,none⟩=some (.string ST)/\W.cell? ⟨EB,0,none⟩=some (.int .i64 e0)) (⟨y12,y0⟩) fun hZ=>?_;refine wpT2 0 1 ?_;refine wpT 2 ?_;refine wpT 3 (v:=.bool true) ?_ (hy:=by intro _ _;go_simp;(try first | omega | (rw[decide_eq_true_iff];omega)));refine wpT4 4 5 6 7 ?_;refine wpT 8 ?_;refine wpT 9 (v:=.int .i64 (O+(ST.size:Int))) ?_ (hy:=by intro _ _;go_simp;(first | rfl | rw[IntWalk.i64_in _ (by omega)]));refine wpT2 10 11 ?_;refine wpT 12 ?_;refine wpT 13 (v:=.int .i64 (e0+1)) ?_ (hy:=by intro _ _;go_simp;(first | rfl | rw[IntWalk.i64_in _ (by omega)]));refine wpT 14 (v:=.bool false) ?_ (hy:=by intro _ _;go_simp;(try first | omega | (rw[dn];omega)));refine wpT 15 ?_;refine wpD ?_ _;clear hZ hlw;go_wp2_with fail
     go_meet
     case rel=>exact⟨rfl,rfl⟩
    case rest =>
     obtain⟨rfl,rfl⟩:=hcut;have hbd:=bd w10;clear y12 y0;replace HL:=hid (HL.below Hh.o hbd);clear hbd;generalize w10.drew=w11 at HL|-
     go_upto_region 26 with fail
     clear he1 he2;have y7:=HL.f.cell 7 (.bool x1.1.s.has) rfl;have y4:=HL.f.cell 4 (.bool x1.1.s.syn) rfl;have Hw:=hid (Ho.next HP.o Hf.o (f:=x1.1))
     rcases hhv:x1.1.s.has
     all_goals rcases hsv:x1.1.s.syn
     all_goals rw[hhv]at y7
     all_goals rw[hsv]at y4
     all_goals have Hd:=hid (And.intro hhv hsv)
     all_goals clear hhv hsv
     rotate_left 2
     focus
      go_upto_region 27 with fail
      clear y7 y4;obtain⟨U,hU⟩:∃U,U=rAhead x1.1.s.ak (rAdd (kfB x).iss 1):=⟨_,rfl⟩;have Am:=hid (show Pr.toldV (parX x) x1.1=U+wn from by unfold Pr.toldV;rw[hU,hd,Hs.o];rfl);have hU2:=rAhead_bd x1.1.s.ak (rAdd (kfB x).iss 1);rw[<-hU]at hU2;have HU:=hid hU.symm;clear hU;obtain⟨hU3,hU4⟩:=hU2;have hw5:0<=wn/\wn<=65535:=by rw[<-Hs.o];exact Hf.win
      obtain⟨hw6,hw7⟩:=hw5;have y3:=HL.f.cell 3 (.int .i64 x1.1.s.ak) rfl;have y8:w11.cell? ⟨F,8,none⟩=some (.int .i64 wn):=by rw[<-Hs.o];exact HL.f.cell 8 _ rfl
      have y1:=HL.b.cell 1 (.int .i64 (kfB x).iss) rfl;have hbd:=bd w11;refine wpB (fun W:World=>W.cell? ⟨F,3,none⟩=some (.int .i64 x1.1.s.ak)/\W.cell? ⟨F,8,none⟩=some (.int .i64 wn)/\W.cell? ⟨EB+1,1,none⟩=some (.int .i64 (kfB x).iss)) (⟨y3,y8,y1⟩) fun hZ=>?_;clear y3 y8 y1;replace HL:=hid (HL.below Hh.o hbd);clear hbd;generalize w11.drew=w12 at HL hZ|-;refine wpT2 0 1 ?_;refine wpT 2 ?_;refine wpT 3 (v:=.int .i64 1) ?_ (hy:=by intro w hSw;(try dsimp only at hSw);go_simp;(try (first | rfl | decide)));refine wpT4 4 5 8 9 ?_;refine wpR 6 fun Kq hKq=> ?_;go_simp;refine(radd_any (kfB x).iss 1 _ H3.2 in1).mono ?_;rintro e wx⟨rfl,rfl⟩;go_simp;refine hKq.out _ _ (hZ) ?_;clear hKq Kq hZ;refine fun hZ=>wpA ?_;refine wpR 7 fun Kq hKq=> ?_;go_simp;refine(rahead_any x1.1.s.ak (rAdd (kfB x).iss 1) _ H4.2 (rAdd_in _ _)).mono ?_;rintro e wx⟨rfl,rfl⟩;rw[HU.o];go_simp;refine hKq.out _ _ (hZ) ?_;clear hKq Kq hZ;refine fun hZ=>wpA ?_;refine wpT 10 (v:=.int .i64 (U+wn)) ?_ (hy:=by intro _ _;go_simp;(first | rfl | rw[IntWalk.i64_in _ (by omega)]));refine wpT 11 ?_;refine wpD ?_ _;clear hZ;obtain⟨-,he1,he2⟩:=Ho.of true;replace he1:0<=e1:=he1;replace he2:e1<=9000000000:=he2
      skip
      have y0:=HL.a.cell 1 (.int .i64 e1) rfl;have y9:=HL.a.free 1;go_wp2_with fail;have Ai:=hid (HL.q.setCell (p:=⟨EB,1,none⟩) (Nat.le_refl EB) (.int .i64 (max e1 (U+wn))));have Ac:=hid (HL.a.set 1 (.int .i64 (max e1 (U+wn))));have Ad:=hid (HL.b.other (C:=EB) (by omega) 1 (.int .i64 (max e1 (U+wn))));have Ae:=hid (HL.c.other (C:=EB) (by omega) 1 (.int .i64 (max e1 (U+wn))))
      go_roundg (gk-1)
      case measure=>omega
      case rel=>exact⟨j+1,e0,(max e1 (U+wn)),by first | rfl | go_num,by omega,Ai.o,Ac.o,Ad.o,Ae.o,by rw[Hx.o];have:=Hw.o;rw[hd,Am.o,Hd.1,Hd.2]at this;simpa using this⟩
     all_goals
      go_wp2_with fail
      go_roundg (gk-1)
      case measure=>omega
      case rel=>exact⟨j+1,e0,e1,by first | rfl | go_num,by omega,HL.q,HL.a,HL.b,HL.c,by rw[Hx.o];have:=Hw.o;rw[if_neg (fun h=>by have:=h.2;rw[Hd.1,Hd.2]at this;simp at this),if_neg (fun h=>by have:=h.2;rw[Hd.1,Hd.2]at this;simp at this)]at this;exact this⟩
   have hji:¬(j:Int)<(M.length:Int):=by omega
   have c17:=Hi.o;go_wp2;go_ret;exact⟨rfl,H0.trans (HQ.mono (by rw[An.o];exact H0.size))⟩
end
end Go.Proofs.YtclkcmidhhfdmaaGreatDoor
namespace Go.Proofs.YtclkcmidhhfdmaaGreatDoor.tCPRespectsLimits
open _root_.Go.Proofs.YtclkcmidhhfdmaaGreatDoor.Rows renaming tCPRespectsLimitsRow->rR,tCPRespectsLimitsSpec->rS
open Go.ChangeShapes Go.WideShapes Go.ChangeAt Go.RowKit
open Go.ChangeMaps (open_string shut_string)
set_option linter.unusedVariables false
theorem own:ownKnob Tryz.prog.godebug=none:=by kernel_rfl
theorem laidOut:laidOutB Tryz.prog=true:=by kernel_rfl
set_option maxRecDepth 100000 in
theorem contract (H:Type) (enc:TypeId×Value->H) (W:World) (base:Nat) (args:Array Value) (ds gs:List (DataW H)) (before:List MemPlace)
  (hval:∀(j:Nat) t v,Tryz.f5.params[j]? =some t->args[j]? =some v->Value.okWide Tryz.prog W .any base t v)
  (hW:DataW.Whole enc Tryz.prog Tryz.f5.params.toList rS.vars false W args.toList ds gs before) (hL:laidMetH Tryz.prog rR.laid W) :
  Calls Tryz.prog 5 args W fun e W'=>∃v,e= .returned v/\rS.post enc Tryz.prog Tryz.f5 false true false false W args v W':=by
 have hW':=hW;obtain⟨p,q,hA0,hV,rfl,hfz,hnd⟩:=hW;have hA:DataW.TrodAll enc Tryz.prog W 0 (fun _=>true) true Tryz.f5.params.toList args.toList ds p:=hA0;rw[Tryz.params5]at hA hval;obtain⟨v0,vs0,d0,ds0,p0,q0,hargs,rfl,rfl,h0,r0⟩:=trodAll_cons hA;obtain⟨v1,vs1,d1,ds1,p1,q1,rfl,rfl,rfl,h1,r1⟩:=trodAll_cons r0;obtain⟨v2,vs2,d2,ds2,p2,q2,rfl,rfl,rfl,h2,r2⟩:=trodAll_cons r1;obtain⟨rfl,rfl,rfl⟩:=trodAll_nil r2;obtain rfl:args= #[v0,v1,v2]:=by cases args;simp_all
 obtain⟨rfl,rfl⟩:=trodVars_none hV;have k0:=h0;have lt0:∀x∈p0,x.block<W.heap.size:=by obtain⟨m,hm⟩:=k0;exact DataW.trod_lt m _ _ _ hm
 obtain⟨x0,rfl,w0⟩:=open_raw (hval 0 23 v0 rfl rfl) h0;obtain⟨a1,len1,cap1,rfl⟩:=okWide_slice Tryz.underlying24 (hval 1 24 v1 rfl rfl);have k1:=h1;have lt1:∀x∈p1,x.block<W.heap.size:=by obtain⟨m,hm⟩:=k1;exact DataW.trod_lt m _ _ _ hm
 obtain⟨z1,w1⟩:∃zs,IsRow .i64 W a1 len1 cap1 zs:=by
  obtain⟨fuel,hf⟩:=h1
  rcases open_ints Tryz.underlying24 Tryz.underlying3 (by kernel_rfl) hf with⟨hcs,_⟩ | ⟨x,l,c,zs,hcs,_,hl,hm,hz,_,hcell,hwz⟩
  ·simp[Value.cells]at hcs
   obtain⟨rfl,rfl,rfl⟩:=hcs;exact⟨[],.inl ⟨rfl,rfl,rfl,rfl⟩⟩
  simp[Value.cells]at hcs
  obtain⟨rfl,rfl,rfl⟩:=hcs;exact⟨zs,.inr ⟨_,rfl,hl,hm,by simpa using hz,hcell,hwz⟩⟩
 obtain⟨a2,len2,cap2,rfl⟩:=okWide_slice Tryz.underlying25 (hval 2 25 v2 rfl rfl);have k2:=h2;have lt2:∀x∈p2,x.block<W.heap.size:=by obtain⟨m,hm⟩:=k2;exact DataW.trod_lt m _ _ _ hm
 obtain⟨z2,w2⟩:=open_dos h2;clear hA0;refine(wk W x0 w0 a1 len1 cap1 z1 w1 a2 len2 cap2 z2 w2 (laidFacts hL)).mono fun e W' ⟨he,bel⟩=> ?_;subst he;exact⟨_,rfl,_,_,_,[],_,[],hW',trodAll_mk1 (shut_bool Tryz.underlying4 _),(trodAll_cons_mk (Below.trod laidOut (by kernel_rfl) (of_decide_eq_true (by kernel_rfl)) k0 bel lt0) (trodAll_cons_mk (Below.trod laidOut (by kernel_rfl) (of_decide_eq_true (by kernel_rfl)) k1 bel lt1) (trodAll_cons_mk (Below.trod laidOut (by kernel_rfl) (of_decide_eq_true (by kernel_rfl)) k2 bel lt2) trodAll_mk0))),rfl,bel.frame _,fun h=>by cases h⟩
theorem reads (os:Os){H:Type}(enc:TypeId×Value->H):∃places,DataW.whole enc Tryz.prog ((laidWorld os).forCall (fun _ _=>0) ⟨#[],#[.agg #[.int .i64 0,.int .i64 0,.int .i64 0,.int .i64 0,.int .i64 0,.int .i64 0],.slice none 0 0,.slice none 0 0],[]⟩).memory Tryz.f5.params.toList rS.vars false (#[.agg #[.int .i64 0,.int .i64 0,.int .i64 0,.int .i64 0,.int .i64 0,.int .i64 0],.slice none 0 0,.slice none 0 0]:Array Value).toList 8=some ([.agg [.lit (.int .i64 0),.lit (.int .i64 0),.lit (.int .i64 0),.lit (.int .i64 0),.lit (.int .i64 0),.lit (.int .i64 0)],.nil,.nil],[],places) :=
 ⟨[],by kernel_rfl⟩
theorem laid_met (os:Os):laidMet Tryz.prog rR.laid ((laidWorld os).forCall (fun _ _=>0) ⟨#[],#[.agg #[.int .i64 0,.int .i64 0,.int .i64 0,.int .i64 0,.int .i64 0,.int .i64 0],.slice none 0 0,.slice none 0 0],[]⟩).memory :=
 laidMet_of_run' 8 (by kernel_rfl) (by kernel_rfl)
set_option maxRecDepth 100000 in
theorem lifted (os:Os) (started:os.Started) (H:Type) (enc:TypeId×Value->H) (F:Stop.Interp) :
  ReturnsInHanded {} Tryz.checked os 5 .any ((OpenSpec.ofChange rS).preRow enc Tryz.prog Tryz.f5 rR.domain false rR.laid) (((OpenSpec.ofChange rS).at F).post enc Tryz.prog Tryz.f5 false true false false):=by
 obtain⟨places,hx⟩:=reads os enc
 refine returnsInHanded_of_row (C:=Tryz.checked) (s:=(OpenSpec.ofChange rS)) own started (by kernel_rfl) Tryz.func5
  (witness_row_at (enc:=enc) (C:=Tryz.checked) false (laidWorld os) #[.agg #[.int .i64 0,.int .i64 0,.int .i64 0,.int .i64 0,.int .i64 0,.int .i64 0],.slice none 0 0,.slice none 0 0] rfl (by kernel_rfl) (by kernel_rfl) (by kernel_rfl)
   (OpenSpec.preRow_of_cond 8 hx (by kernel_rfl) (fun k hk=>by cases hk) (by kernel_rfl) (laid_met os))) ?_
 intro W base args ds gs before hval hW _ _ _ hL _ _;exact contract H enc W base args ds gs before hval hW hL
theorem and2 {a b:Bool}(h:a=true)(k:b=true):(a&&b)=true:=by rw[h,k];rfl
set_option maxHeartbeats 8000000 in
theorem closed:joinedFacts Tryz.pinned.checked.prog 5 Tryz.f5 (OpenSpec.ofChange rS).bare rR=true:=by
 unfold joinedFacts
 repeat' (with_reducible refine and2 ?_ ?_)
 all_goals (as_aux_lemma=>kernel_rfl)
theorem named:Tryz.pinned.checked.prog.funcNamed rR.func=some 5:=by kernel_rfl
theorem origin:Tryz.f5.isInstance Tryz.pinned.checked.prog rR.origin rR.targs:=of_decide_eq_true (by kernel_rfl)
theorem wrapper:Tryz.f5.isWrapper Tryz.pinned.checked.prog rR.wrapper rR.mainSum:=by unfold Func.isWrapper;first | (rw[if_pos (by decide +kernel)];kernel_rfl) | (rw[if_neg (by decide +kernel)];exact⟨rfl,rfl⟩)
theorem said:rR.holds Tryz.pinned (OpenSpec.ofChange rS) :=
 OpenClaim.holds_of_cond 5 Tryz.f5 rfl rfl rfl rfl rfl rfl rfl ⟨rfl,rfl,rfl,rfl,rfl⟩ rfl rfl rfl rfl rfl named Tryz.func5 closed origin wrapper
  (fun os started H enc _ F=>by rw[OpenClaim.pre_eq_preRow];exact lifted os started H enc F)
theorem looked:true=Tryz.pinned.checked.prog.looks []:=by kernel_rfl
theorem wellF:rR.wfByText (OpenSpec.ofChange rS)=true:=by kernel_rfl
theorem goes:false=rR.goesBy Tryz.pinned.checked.prog:=by kernel_rfl
theorem plain (f:FuncId)(fn:Func)(hf:Tryz.pinned.checked.prog.funcNamed "stagepost/stagepostlaw18.TCPRespectsLimits" = some f)(hfn:Tryz.pinned.checked.prog.funcs[f]? =some fn) :
  true=Tryz.pinned.checked.prog.looks []/\∀(j:Nat) t,fn.params[j]? =some t->Tryz.pinned.checked.prog.wantsStandIn t=false:=by
 obtain rfl:f=5:=Option.some.inj ((show Tryz.prog.funcNamed "stagepost/stagepostlaw18.TCPRespectsLimits" = some 5 by kernel_rfl).symm.trans hf) |>.symm
 obtain rfl:fn=Tryz.f5:=(Option.some.inj (Tryz.func5.symm.trans hfn)).symm;refine⟨looked,fun j t ht=> ?_⟩;rw[Tryz.params5]at ht;have hm:=Array.mem_of_getElem? ht;have hall:(#[23,24,25]:Array TypeId).all (fun t=>Tryz.prog.wantsStandIn t==false)=true:=by kernel_rfl
 exact eq_of_beq (Array.all_eq_true_iff_forall_mem.1 hall t hm)
theorem proved:Rows.TCPRespectsLimitsCardSaid :=
 Claim7.holds_tied_plain_at .later [] _ _ _ _ said (fun _ h=>by cases h) wellF (fun _ h=>by cases h) tCPRespectsLimits_row_tie rfl ⟨rfl,rfl⟩ (by kernel_rfl) rfl plain goes
end Go.Proofs.YtclkcmidhhfdmaaGreatDoor.tCPRespectsLimits
