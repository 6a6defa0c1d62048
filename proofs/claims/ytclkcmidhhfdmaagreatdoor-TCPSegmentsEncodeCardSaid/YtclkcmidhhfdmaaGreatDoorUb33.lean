import Derived.Test.YtclkcmidhhfdmaaGreatDoorUb10
import Derived.Test.YtclkcmidhhfdmaaGreatDoorUb32
namespace Go.Proofs.YtclkcmidhhfdmaaGreatDoor
open Lib (hid)
section
theorem uI {iss:Int}{off:Nat}(h:off<=100000):aD (bt iss off) (bt iss 1)=(off:Int)-1:=by unfold aD bt;omega
theorem rY (c:Cn)(now:Int)(s:Sg)(off:Int):(c.store now s off).irs=c.irs:=by
 unfold Cn.store;split
 ·rfl
 split
 ·split
  ·unfold Cn.ackSoon;split <;> rfl
  rfl
 rfl
theorem uJ (c:Cn)(now:Int)(s:Sg)(off:Int):(c.finS now s off).irs=c.irs:=by
 unfold Cn.finS;dsimp only;have h1:(if s.fin=true/\ao c.st=true/\c.ended=false/\c.bx.nx<=off+s.s.length then { c with ended:=true,fend:=off+s.s.length }else c).irs=c.irs:=by split <;> rfl
 generalize (if s.fin=true/\ao c.st=true/\c.ended=false/\c.bx.nx<=off+s.s.length then { c with ended:=true,fend:=off+s.s.length }else c)=d at h1|-;split
 ·rw[<-h1];exact(dQ { d with over:=true } now 6).irs
 exact h1
theorem rZ (c:Cn):Fx c c.expire.1/\c.expire.1.st=c.st:=by
 unfold Cn.expire;split
 ·exact⟨⟨rfl,rfl,rfl,rfl⟩,rfl⟩
 split
 ·exact⟨.refl c,rfl⟩
 exact⟨lP c _,(fV c false).1⟩
theorem kg (c:Cn)(now:Int)(l:List Sg):Fx c (c.tickEnd now l).1/\(c.tickEnd now l).1.st=c.st:=by
 unfold Cn.tickEnd;dsimp only;split
 ·exact⟨(show Fx c c.ackNow from⟨rfl,rfl,rfl,rfl⟩).trans (cB _ now),fW c.ackNow now⟩
 exact⟨cB c now,fW c now⟩
theorem vY (c:Cn)(now:Int):Fx c (c.tick now).1/\((c.tick now).1.st=c.st\/(c.tick now).1.st=0):=by
 unfold Cn.tick;split
 ·exact⟨.refl c,.inl rfl⟩
 split
 ·exact⟨fC c _ _ _,.inr (dM c now _ (.inr rfl))⟩
 split
 ·dsimp only;split
  ·exact⟨(show Fx c { c with tries:=c.tries+1 }from⟨rfl,rfl,rfl,rfl⟩).trans (fC _ _ _ _),.inr (dM _ now _ (.inr rfl))⟩
  have f0:Fx c { c with tries:=c.tries+1,tm:=c.tm.retr.backoff,dl:=.aft now c.tm.retr.backoff.value }:=⟨rfl,rfl,rfl,rfl⟩;split
  ·obtain⟨e1,e2⟩:=rZ { c with tries:=c.tries+1,tm:=c.tm.retr.backoff,dl:=.aft now c.tm.retr.backoff.value };obtain⟨t1,t2⟩:=kg (Cn.expire { c with tries:=c.tries+1,tm:=c.tm.retr.backoff,dl:=.aft now c.tm.retr.backoff.value }).1 now (Cn.expire { c with tries:=c.tries+1,tm:=c.tm.retr.backoff,dl:=.aft now c.tm.retr.backoff.value }).2;exact⟨(f0.trans e1).trans t1,.inl (t2.trans e2)⟩
  exact⟨f0.trans (ph _),.inl (by unfold Cn.synC;split <;> rfl)⟩
 have:=kg c now [];exact⟨this.1,.inl this.2⟩
theorem uK (c:Cn)(now:Int)(he:c.closeE=0):Fx c (c.close now).1/\(c.st=1->(c.close now).1.st=0):=by
 have hx:¬(c.st=0\/c.shut=true):=fun hh=>by unfold Cn.closeE at he;rw[if_pos hh]at he;cases he
 have f0:Fx c { c with shut:=true }:=⟨rfl,rfl,rfl,rfl⟩;unfold Cn.close;rw[if_neg hx];dsimp only;split
 ·rename_i h1;refine⟨f0.trans (fC _ _ _ _),fun _=> ?_⟩;show(Cn.step { c with shut:=true } now 5).st=0;rw[Cn.step_st];dsimp only;rw[h1];rfl
 split
 ·rename_i h1 h2;exact⟨f0.trans (cB _ now),fun h=>absurd h h1⟩
 rename_i h1 h2;exact⟨(f0.trans (dQ _ now 5)).trans (cB _ now),fun h=>absurd h h1⟩
theorem vZ (c:Cn)(now:Int)(x:List UInt8):Fx c (c.send now x).1/\(c.send now x).1.st=c.st:=by
 unfold Cn.send;split
 ·exact⟨.refl c,rfl⟩
 exact⟨(show Fx c { c with held:=c.held++x.take (c.sendN x).toNat }from⟨rfl,rfl,rfl,rfl⟩).trans (cB _ now),fW _ now⟩
namespace RB
variable {S S' : List UInt8} {cl cl' : Bool} {iss : Int} {c d : Cn} {got : List UInt8}
theorem receive (h:RB S cl c got)(hi:0<=iss/\iss<=4294967295)(ir:Ir iss c)(now:Int){s:Sg}{k:Kx}(g:GS k s)(kS:k.S=S)(kc:k.cl=cl)(ki:k.iss=iss):RB S cl (c.receive now s).1 got/\Ir iss (c.receive now s).1:=by
 have hsm:=h.pi.small;have gd:=g.dat;rw[kS,kc,ki]at gd;unfold Cn.receive;split
 ·exact⟨h,ir⟩
 rename_i h0;split
 ·exact⟨h,ir⟩
 split
 ·rename_i h1;unfold Cn.greet;split
  ·split <;> exact⟨h,ir⟩
  split
  ·exact⟨h.fx (fC _ _ _ _),.inl (dM c now _ (.inl rfl))⟩
  split
  ·exact⟨h,ir⟩
  rename_i hy;have hy:s.syn=true:=by simpa using hy
  have hr:s.rst=false:=by
   cases hq:s.rst with
   | false=>rfl
   | true=>have:=(g.rst hq).2.2;rw[hy]at this;cases this
  obtain⟨off,g1,-,g3,-⟩:=gd hr;have e0:=(g3 hy).1;have a5:s.sq=iss:=by rw[g1,e0];unfold bt;omega
  have key:∀x:Cn,x.bx=c.bx->x.ended=c.ended->x.fend=c.fend->x.irs=s.sq->∀e,Fx x e->RB S cl e got/\Ir iss e:=fun x a1 a2 a3 a4 e f =>
   ⟨(RB.mk (by rw[a1];exact h.pi) (by rw[a2,a3];exact h.en):RB S cl x got).fx f,.inr (.inr (f.irs.trans (a4.trans a5)))⟩
  dsimp only;split
  ·exact key { c.meet s with tries:=0 } rfl rfl rfl rfl _ ((dQ _ now 2).trans (ph _))
  refine key { ({ c.meet s with tries:=0 }:Cn)with sc:=(c.meet s).sc.acked 1 [],tm:=(c.meet s).tm.acked now 1 } rfl rfl rfl rfl _ ?_;refine Fx.trans ?_ (cB _ now);have h3:=dQ { ({ c.meet s with tries:=0 }:Cn)with sc:=(c.meet s).sc.acked 1 [],tm:=(c.meet s).tm.acked now 1 } now 3;exact⟨h3.bx,h3.irs,h3.ended,h3.fend⟩
 rename_i h1
 have a5:c.irs=iss:=by
  rcases ir with h | h | h
  ·exact absurd h h0
  ·exact absurd h h1
  exact h
 have key:∀e,Fx c e->RB S cl e got/\Ir iss e:=fun e f=>⟨h.fx f,.inr (.inr (f.irs.trans a5))⟩;unfold Cn.recvOk;dsimp only;split
 ·exact key _ (fC _ _ _ _)
 split
 ·exact⟨h,ir⟩
 split
 ·refine key _ ?_;unfold Cn.stray;dsimp only
  have f1:Fx c (if cA c.st=true/\s.has=true/\s.syn=false/\c.una<=aD s.ak c.cf.iss/\aD s.ak c.cf.iss<=c.next then c.acked now s (aD s.ak c.cf.iss)else c):=by
   split
   ·exact iZ c now s _
   exact .refl c
  generalize (if cA c.st=true/\s.has=true/\s.syn=false/\c.una<=aD s.ak c.cf.iss/\aD s.ak c.cf.iss<=c.next then c.acked now s (aD s.ak c.cf.iss)else c)=a at f1|-
  have f2:Fx c (if a.st=9/\s.fin=true then { a with per:=.aft now 60 }else a):=by
   split
   ·exact f1.trans ⟨rfl,rfl,rfl,rfl⟩
   exact f1
  generalize (if a.st=9/\s.fin=true then { a with per:=.aft now 60 }else a)=b at f2|-;split
  ·exact(f2.trans (show Fx b b.ackNow from⟨rfl,rfl,rfl,rfl⟩)).trans (cB _ now)
  exact f2.trans (cB _ now)
 split
 ·exact key _ ((show Fx c c.ackNow from⟨rfl,rfl,rfl,rfl⟩).trans (cB _ now))
 split
 ·exact⟨h,ir⟩
 rename_i hrs _
 have hr:s.rst=false:=by
  cases hq:s.rst with
  | false=>rfl
  | true=>exact absurd (.inl hq) hrs
 have hy:s.syn=false:=by
  cases hq:s.syn with
  | false=>rfl
  | true=>exact absurd (.inr hq) hrs
 obtain⟨off,g1,g2,-,g4,g5,g6⟩:=gd hr;have hoff:=g4 hy;obtain⟨o,ho⟩:∃o:Nat,off=o+1:=⟨off-1,by omega⟩
 have e:c.offset s.sq=(o:Int):=by
  unfold Cn.offset;rw[g1,a5,uI (by omega),ho];omega
 subst ho;rw[Nat.add_sub_cancel]at g5 g6;rw[e]
 have an:∀x,Fx c x->RB S cl (((x.store now s o).finS now s o).push now).1 got/\Ir iss (((x.store now s o).finS now s o).push now).1:=fun x f =>
  ⟨((((h.fx f).store now g5).finS now g6).fx (cB _ now)),.inr (.inr (by rw[(cB _ now).irs,uJ,rY,f.irs,a5]))⟩
 unfold Cn.process;dsimp only;split
 ·split
  ·exact⟨h,ir⟩
  split
  ·exact an _ (((dQ c now 4).trans (dQ _ now 5)).trans (iZ _ now s _))
  exact an _ ((dQ c now 4).trans (iZ _ now s _))
 split
 ·exact key _ ((show Fx c c.ackNow from⟨rfl,rfl,rfl,rfl⟩).trans (cB _ now))
 exact an _ (iZ c now s _)
theorem recv (h:RB S cl c got)(now:Int){n:Int}(hn:0<=n):RB S cl (c.recv now n).1 (got++c.bx.takeS n)/\(c.recv now n).1.irs=c.irs/\(c.recv now n).1.st=c.st/\(c.recvE n=true->cl=true/\(got++c.bx.takeS n).length=S.length):=by
 obtain⟨p1,p2,-⟩:=h.pi.take n;have hd:RB S cl { c with bx:=c.bx.take n } (got++c.bx.takeS n):=⟨p1,h.en⟩
 have he:c.recvE n=true->cl=true/\(got++c.bx.takeS n).length=S.length:=by
  intro hx;unfold Cn.recvE Cn.reached at hx;rw[Bool.and_eq_true,Bool.and_eq_true,decide_eq_true_iff,decide_eq_true_iff]at hx;have h1:=h.en hx.1.1;have h2:=p1.rd;have h3:(c.bx.take n).nx=c.fend:=hx.1.2;exact⟨h1.1,by omega⟩
 unfold Cn.recv;rw[if_neg (by omega)];dsimp only;split
 ·exact⟨hd,rfl,rfl,he⟩
 split
 ·exact⟨hd,rfl,rfl,he⟩
 refine⟨hd.fx ((show Fx { c with bx:=c.bx.take n } (Cn.ackNow { c with bx:=c.bx.take n })from⟨rfl,rfl,rfl,rfl⟩).trans (cB _ now)),(cB _ now).irs,fW _ now,he⟩
end RB
def Sd.str (s:Sd):List UInt8:=s.all.take s.sent.toNat
theorem SdOk.strlen {s:Sd}(h:SdOk s):s.str.length=s.sent.toNat:=by
 have:=h.sl;have:=h.s0;unfold Sd.str;rw[List.length_take];omega
namespace Pr
structure Par where
 iss:Bool->Int
 m:Int
 r:Bool->Int
def df (P:Par)(i:Bool)(L:List Fl):Int:=L.foldl (fun e f=>if f.dst=i/\f.s.has=true/\f.s.syn=false then max e (aD f.s.ak (bt (P.iss i) 1)+f.s.win)else e) (P.r (!i))
def kx (P:Par)(p:Pr)(i:Bool):Kx:=⟨(p.sd i).str,(p.sd i).closed,P.iss i,P.m,P.r i,df P i p.log⟩
structure Chk (P:Par)(L:List Fl)(f:Fl):Prop where
 len:(f.s.s.length:Int)<=P.m
 win:f.s.win<=P.r (!f.dst)
 lim:f.s.s≠[]->aD f.s.sq (bt (P.iss (!f.dst)) 1)+f.s.s.length<=df P (!f.dst) L+1
 pos:f.s.s≠[]->0<=aD f.s.sq (bt (P.iss (!f.dst)) 1)
theorem wl {k:Kx}{s:Sg}(g:GS k s)(hl:k.S.length<=1000)(hs:s.s≠[]):0<=aD s.sq (bt k.iss 1):=by
 have hr:s.rst=false:=by
  cases hq:s.rst with
  | false=>rfl
  | true=>exact absurd (g.rst hq).1 hs
 obtain⟨off,h1,h2,h3,h4,-⟩:=g.dat hr
 have hy:s.syn=false:=by
  cases hq:s.syn with
  | false=>rfl
  | true=>exact absurd (h3 hq).2.1 hs
 have:=h4 hy;rw[h1,uI (by omega)];omega
structure PV (P:Par)(p:Pr):Prop where
 s:∀i,SI (kx P p i) (p.sd i).c/\U1 (p.sd i).c
 r:∀i,RB (p.sd (!i)).str (p.sd (!i)).closed (p.sd i).c (p.sd i).got/\Ir (P.iss (!i)) (p.sd i).c/\((p.sd i).fin=true->(p.sd (!i)).closed=true/\(p.sd i).got.length=(p.sd (!i)).str.length)
 w:∀f∈p.wire,GS (kx P p (!f.dst)) f.s/\iY (kx P p f.dst) f.s
 g:∀L f M,p.log=L++f::M->Chk P L f
theorem jB (P:Par)(i:Bool)(L:List Fl)(f:Fl):df P i (L++[f])=if f.dst=i/\f.s.has=true/\f.s.syn=false then max (df P i L) (aD f.s.ak (bt (P.iss i) 1)+f.s.win)else df P i L:=by
 unfold df;rw[List.foldl_append];rfl
theorem wn (P:Par)(i:Bool)(L:List Fl):P.r (!i)<=df P i L:=by
 have key:∀(L:List Fl) (e:Int),e<=L.foldl (fun e f=>if f.dst=i/\f.s.has=true/\f.s.syn=false then max e (aD f.s.ak (bt (P.iss i) 1)+f.s.win)else e) e:=by
  intro L
  induction L with
  | nil=>exact fun e=>Int.le_refl e
  | cons f L ih =>
   intro e;rw[List.foldl_cons];split
   ·exact Int.le_trans (by omega) (ih _)
   exact ih e
 exact key L _
theorem uL (p:Pr)(i:Bool)(d:Sd):(p.setSd i d).sd i=d/\(p.setSd i d).sd (!i)=p.sd (!i)/\(p.setSd i d).wire=p.wire/\(p.setSd i d).now=p.now/\(p.setSd i d).log=p.log:=by cases i <;> exact⟨rfl,rfl,rfl,rfl,rfl⟩
theorem uM {p:Pr}{f g:Fl}(h:g∈p.addW f):g.dst=f.dst/\g.s=f.s:=by
 unfold addW at h
 (repeat' split at h) <;> simp at h <;> rw[h] <;> exact⟨rfl,rfl⟩
theorem pS {α:Type}{A L M:List α}{x y:α}(h:A++[x]=L++y::M):(∃M',A=L++y::M')\/(L=A/\y=x):=by
 rcases List.eq_nil_or_concat M with rfl | ⟨M',z,rfl⟩
 ·have:=List.append_inj' h rfl
  injection this.2 with h1 h2
  exact .inr ⟨this.1.symm,h1.symm⟩
 have e:L++y::(M'++[z])=(L++y::M')++[z]:=by simp
 rw[List.concat_eq_append,e]at h;exact .inl ⟨M',(List.append_inj' h rfl).1⟩
variable {P : Par} {p : Pr} {q r : Int}
theorem jL (i j:Bool):j=i\/j= !i:=by cases i <;> cases j <;> simp
theorem PV.put1 (h:PV P p)(i:Bool){s:Sg}(g:GS (kx P p i) s):PV P (p.put1 i s)/\kx P (p.put1 i s) i=kx P p i:=by
 have aa:∀j,(p.put1 i s).sd j=p.sd j:=fun j=>by cases j <;> rfl
 have hl:(p.put1 i s).log=p.log++[p.fl i s]:=rfl;have hd:(p.fl i s).dst= !i:=rfl;have hs:(p.fl i s).s=s:=rfl
 have ei:kx P (p.put1 i s) i=kx P p i:=by
  unfold kx;rw[aa,hl,jB,hd,if_neg (fun hh=>by have:=hh.1;cases i <;> cases this)]
 have gw:∀j,Gw (kx P p j) (kx P (p.put1 i s) j):=fun j=>⟨.inl ⟨by show((p.put1 i s).sd j).str=_;rw[aa];rfl,fun hc=>by show((p.put1 i s).sd j).closed=true;rw[aa];exact hc⟩,rfl,rfl,rfl,by
  show df P j p.log<=df P j (p.put1 i s).log;rw[hl,jB];split <;> omega⟩
 have told:iY (kx P (p.put1 i s) (!i)) s:=by
  refine⟨fun h1 h2=> ?_,fun h1=> ?_⟩
  ·show aD s.ak (bt (P.iss (!i)) 1)+s.win<=df P (!i) (p.put1 i s).log;rw[hl,jB,if_pos ⟨hd,h1,h2⟩,hs];omega
  show s.win<=df P (!i) (p.put1 i s).log;have h2:=wn P (!i) (p.put1 i s).log;rw[Bool.not_not]at h2;exact Int.le_trans g.win h2
 have hp:s.s≠[]->0<=aD s.sq (bt (P.iss i) 1):=fun hs2=>wl (k:=kx P p i) g (h.s i).1.sm hs2;refine⟨⟨fun j=> ?_,fun j=> ?_,fun f hf=> ?_,fun L f M hh=> ?_⟩,ei⟩
 ·rw[aa];exact⟨(h.s j).1.gw (gw j) (by show((p.put1 i s).sd j).str.length<=1000;rw[aa];exact(h.s j).1.sm) (by show((p.put1 i s).sd j).str=_;rw[aa];rfl) (by show((p.put1 i s).sd j).closed=_;rw[aa];rfl),(h.s j).2⟩
 ·rw[aa,aa];exact h.r j
 ·rcases List.mem_append.1 hf with hf | hf
  ·have:=h.w f hf;exact⟨this.1.gw (gw _),this.2.gw (gw _)⟩
  obtain⟨h1,h2⟩:=uM hf;rw[h1,h2,hd,hs,Bool.not_not,ei];exact⟨g,told⟩
 rw[hl]at hh
 rcases pS hh with⟨M',h1⟩ | ⟨h1,h2⟩
 ·exact h.g L f M' h1
 rw[h1,h2];exact⟨g.len,by rw[hd,Bool.not_not];exact g.win,by rw[hd,Bool.not_not];exact g.lim,by rw[hd,Bool.not_not];exact hp⟩
theorem PV.put (i:Bool):∀(l:List Sg) {p:Pr},PV P p->(∀s∈l,GS (kx P p i) s)->PV P (p.put i l):=by
 intro l
 induction l with
 | nil=>intro p h _;exact h
 | cons s l ih =>
  intro p h hl;obtain⟨h1,h2⟩:=h.put1 i (hl s List.mem_cons_self);exact ih h1 (fun x hx=>by rw[h2];exact hl x (List.mem_cons_of_mem _ hx))
theorem PV.act (h:PV P p)(i:Bool){d:Sd}{l:List Sg}{k:Kx}(hk:k=⟨d.str,d.closed,P.iss i,P.m,P.r i,df P i p.log⟩)(g:(d.str=(p.sd i).str/\((p.sd i).closed=true->d.closed=true))\/((p.sd i).closed=false/\∃x,d.str=(p.sd i).str++x))(hlen:d.str.length<=1000)(ho:iC k (d.c,l))
  (hr:RB (p.sd (!i)).str (p.sd (!i)).closed d.c d.got)(hi:Ir (P.iss (!i)) d.c)(hf:d.fin=true->(p.sd (!i)).closed=true/\d.got.length=(p.sd (!i)).str.length):PV P ((p.setSd i d).put i l):=by
 subst hk;obtain⟨hs,hl,hu⟩:=ho;obtain⟨s1,s2,s3,s4,s5⟩:=uL p i d;have hnn:(!!i)=i:=Bool.not_not i;have ei:kx P (p.setSd i d) i=⟨d.str,d.closed,P.iss i,P.m,P.r i,df P i p.log⟩:=by unfold kx;rw[s1,s5]
 have en:kx P (p.setSd i d) (!i)=kx P p (!i):=by unfold kx;rw[s2,s5]
 have gw:Gw (kx P p i) (kx P (p.setSd i d) i):=by rw[ei];exact⟨g,rfl,rfl,rfl,Int.le_refl _⟩
 refine PV.put i l ⟨fun j=> ?_,fun j=> ?_,fun f hfm=> ?_,fun L f M hh=> ?_⟩ (by rw[ei];exact hl)
 ·rcases jL i j with rfl | rfl
  ·rw[s1,ei];exact⟨hs,hu⟩
  rw[s2,en];exact h.s _
 ·rcases jL i j with rfl | rfl
  ·rw[s1,s2];exact⟨hr,hi,hf⟩
  rw[s2,hnn,s1];obtain⟨r1,r2,r3⟩:=h.r (!i);rw[hnn]at r1 r2 r3;refine⟨r1.gw g hlen,r2,fun hx=> ?_⟩;have:=r3 hx
  rcases g with⟨e1,e2⟩ | ⟨e1,-⟩
  ·rw[e1];exact⟨e2 this.1,this.2⟩
  rw[this.1]at e1;cases e1
 ·rw[s3]at hfm;obtain⟨k1,k2⟩:=h.w f hfm
  have:∀j,Gw (kx P p j) (kx P (p.setSd i d) j):=fun j=>by
   rcases jL i j with rfl | rfl
   ·exact gw
   rw[en];exact .refl _
  exact⟨k1.gw (this _),k2.gw (this _)⟩
 rw[s5]at hh;exact h.g L f M hh
theorem ws (p:Pr)(i j:Bool)(l:List Sg):(p.put i l).sd j=p.sd j:=by
 have:=kT i l p
 cases j
 ·exact this.1
 exact this.2.1
theorem jM (h:Fit p q r)(i:Bool):(p.sd i).str.length<=1000:=by
 have h1:=h.sd i;have:=h1.strlen;have:=h1.sl;have:=h1.len;omega
def Par.Ok (P:Par):Prop:=∀i,0<=P.iss i/\P.iss i<=4294967295
theorem PV.recv1 (h:PV P p)(k:Fit p q r)(hP:P.Ok){f:Fl}(hf:f.s.Ok){k1 k2:Kx}(e1:k1.S=(p.sd (!f.dst)).str)(e2:k1.cl=(p.sd (!f.dst)).closed)(e3:k1.iss=P.iss (!f.dst))(g:GS k1 f.s)(e4:Gw k2 (kx P p f.dst))(t:iY k2 f.s):PV P (p.recv1 f):=by
 have hs:=k.sd f.dst;obtain⟨a1,a2⟩:=h.s f.dst;obtain⟨r1,r2,r3⟩:=h.r f.dst;obtain⟨b1,b2⟩:=r1.receive (hP _) r2 p.now g e1 e2 e3;exact h.act f.dst (d:={ p.sd f.dst with c:=((p.sd f.dst).c.receive p.now f.s).1 }) rfl (.inl ⟨rfl,id⟩) (jM k _) (a1.receive hs.c k.in64 hf a2 (t.gw e4)) b1 b2 r3
theorem uN (p:Pr)(f:Fl)(j:Bool):((p.recv1 f).sd j).str=(p.sd j).str/\((p.recv1 f).sd j).closed=(p.sd j).closed:=by
 have e:(p.recv1 f).sd j=(p.setC f.dst ((p.sd f.dst).c.receive p.now f.s).1).sd j:=ws _ _ _ _;rw[e]
 cases f.dst <;> cases j <;> exact⟨rfl,rfl⟩
theorem ve (i:Bool):∀(l:List Sg) (p:Pr) (j:Bool),df P j p.log<=df P j (p.put i l).log:=by
 intro l
 induction l with
 | nil=>intro p j;exact Int.le_refl _
 | cons s l ih =>
  intro p j;refine Int.le_trans ?_ (ih (p.put1 i s) j);show df P j p.log<=df P j (p.log++[p.fl i s]);rw[jB];split <;> omega
theorem oG (p:Pr)(f:Fl)(j:Bool):Gw (kx P p j) (kx P (p.recv1 f) j):=by
 obtain⟨e1,e2⟩:=uN p f j;refine⟨.inl ⟨e1,fun h=>e2.trans h⟩,rfl,rfl,rfl,?_⟩;have h1:=ve (P:=P) f.dst ((p.sd f.dst).c.receive p.now f.s).2 (p.setC f.dst ((p.sd f.dst).c.receive p.now f.s).1) j;rw[show(p.setC f.dst ((p.sd f.dst).c.receive p.now f.s).1).log=p.log from(uL p _ _).2.2.2.2]at h1;exact h1
theorem PV.fold (hP:P.Ok):∀(l:List Fl) {p:Pr} {q r:Int},PV P p->Fit p q r->(∀f∈l,f.s.Ok/\GS (kx P p (!f.dst)) f.s/\iY (kx P p f.dst) f.s)->PV P (l.foldl Pr.recv1 p):=by
 intro l
 induction l with
 | nil=>intro p q r h _ _;exact h
 | cons f l ih =>
  intro p q r h k hl;obtain⟨h1,h2,h3⟩:=hl f List.mem_cons_self;refine ih (h.recv1 k hP h1 (k1:=kx P p (!f.dst)) rfl rfl rfl h2 (.refl _) h3) (recv1_fit k h1) (fun x hx=> ?_);obtain⟨h4,h5,h6⟩:=hl x (List.mem_cons_of_mem _ hx);exact⟨h4,h5.gw (oG p f _),h6.gw (oG p f _)⟩
theorem PV.tick1 (h:PV P p)(k:Fit p q r)(i:Bool):PV P (p.tick1 i):=by
 have hs:=k.sd i;obtain⟨a1,a2⟩:=h.s i;obtain⟨r1,r2,r3⟩:=h.r i;obtain⟨f1,f2⟩:=vY (p.sd i).c p.now;refine h.act i (d:={ p.sd i with c:=((p.sd i).c.tick p.now).1 }) rfl (.inl ⟨rfl,id⟩) (jM k _) (a1.tick hs.c k.in64 a2) (r1.fx f1) ?_ r3;show Ir _ ((p.sd i).c.tick p.now).1
 rcases f2 with f2 | f2
 ·unfold Ir at r2|-;rw[f2,f1.irs];exact r2
 exact .inl f2
theorem PV.tick (h:PV P p)(k:Fit p q r)(hn:p.now+1<=1000000)(hP:P.Ok):PV P p.tick:=by
 have h0:PV P { p with now:=p.now+1 }:=⟨h.s,h.r,h.w,h.g⟩;have k0:Fit { p with now:=p.now+1 } q r:=⟨k.a,k.b,⟨by have:=k.now;dsimp only;omega,hn⟩,k.wire,k.due,k.log,k.q,k.r⟩
 have key:∀{x:Pr} {q r:Int},PV P x->Fit x q r->PV P x.deliver:=by
  intro x q r h k;exact PV.fold hP x.due (p:={ x with wire:=x.rest }) ⟨h.s,h.r,fun f hf=>h.w f (kU hf),h.g⟩ (rest_fit k) (fun f hf=>⟨k.wire f (due_mem hf),h.w f (due_mem hf)⟩)
 have h1:=key h0 k0;have k1:=deliver_fit k0;exact(h1.tick1 k1 false).tick1 (tick1_fit k1 false) true
theorem PV.send (h:PV P p)(k:Fit p q r)(i:Bool)(n:Int):PV P (p.send i n):=by
 have hs:=k.sd i;obtain⟨a1,a2⟩:=h.s i;obtain⟨r1,r2,r3⟩:=h.r i;unfold Pr.send;dsimp only;split
 ·exact h
 rename_i hc;split
 ·exact h
 rename_i hr;have hb:=bytes_len hs n;have hl:=hs.len;have hsl:=hs.sl;have c6:=hs.last;have h0:=hs.s0;have hx:(p.sd i).c.refusal=0:=by simpa using hr
 have hcl:(p.sd i).closed=false:=by simpa using (fun h=>hc (.inl h))
 have hk:0<=(p.sd i).c.sendN (bytes (p.sd i) n)/\(p.sd i).c.sendN (bytes (p.sd i) n)<=(bytes (p.sd i) n).length:=by unfold Cn.sendN Cn.space;split <;> omega
 have e:(p.sd i).str++(bytes (p.sd i) n).take ((p.sd i).c.sendN (bytes (p.sd i) n)).toNat=(p.sd i).all.take ((p.sd i).sent+(p.sd i).c.sendN (bytes (p.sd i) n)).toNat:=by
  generalize (p.sd i).c.sendN (bytes (p.sd i) n)=kk at hk|-
  have hkb:kk.toNat+(p.sd i).sent.toNat<=(min ((p.sd i).sent+n) (p.sd i).all.length).toNat\/kk=0:=by
   have:(bytes (p.sd i) n).length=(min ((p.sd i).sent+n) (p.sd i).all.length).toNat-(p.sd i).sent.toNat:=by
    unfold bytes;rw[List.length_drop,List.length_take];omega
   omega
  rcases hkb with hkb | rfl
  ·rw[show((p.sd i).sent+kk).toNat=(p.sd i).sent.toNat+kk.toNat by omega,List.take_add]
   congr 1
   unfold bytes;rw[List.drop_take,List.take_take]
   congr 1
   omega
  simp[Sd.str]
 have o:=a1.send hs.c k.in64 a2 (bytes (p.sd i) n) (by omega) hx (by show((p.sd i).str++_).length<=1000;rw[e,List.length_take];omega);have es:Sd.str { p.sd i with c:=((p.sd i).c.send p.now (bytes (p.sd i) n)).1,sent:=(p.sd i).sent+(p.sd i).c.sendN (bytes (p.sd i) n) }=(p.sd i).all.take ((p.sd i).sent+(p.sd i).c.sendN (bytes (p.sd i) n)).toNat:=rfl;obtain⟨f1,f2⟩:=vZ (p.sd i).c p.now (bytes (p.sd i) n);refine h.act i (d:={ p.sd i with c:=((p.sd i).c.send p.now (bytes (p.sd i) n)).1,sent:=(p.sd i).sent+(p.sd i).c.sendN (bytes (p.sd i) n) }) (k:={ kx P p i with S:=(p.sd i).str++(bytes (p.sd i) n).take ((p.sd i).c.sendN (bytes (p.sd i) n)).toNat }) (by rw[es,e];rfl) (.inr ⟨hcl,_,(es.trans e.symm)⟩) (by rw[es,List.length_take];omega) o (r1.fx f1) ?_ r3;show Ir _ ((p.sd i).c.send p.now (bytes (p.sd i) n)).1;unfold Ir at r2|-;rw[f2,f1.irs];exact r2
theorem PV.recv (h:PV P p)(k:Fit p q r)(i:Bool){n:Int}(hn:0<=n):PV P (p.recv i n):=by
 have hs:=k.sd i;obtain⟨a1,a2⟩:=h.s i;obtain⟨r1,r2,r3⟩:=h.r i;obtain⟨c1,c2,c3,c4⟩:=r1.recv p.now hn
 have hir:Ir (P.iss (!i)) ((p.sd i).c.recv p.now n).1:=by
  unfold Ir at r2|-;rw[c3,c2];exact r2
 have o:=a1.recv hs.c k.in64 a2 n;unfold Pr.recv;dsimp only;split
 ·rename_i he
  have hz:(p.sd i).c.bx.takeS n=[]:=by
   unfold Cn.recvErr at he;rw[if_neg (by omega)]at he;split at he
   ·rename_i hx;exact hx.1
   exact absurd rfl he
  rw[hz,List.append_nil]at c1;have e:p.setC i ((p.sd i).c.recv p.now n).1=(p.setSd i { p.sd i with c:=((p.sd i).c.recv p.now n).1 }).put i []:=rfl;rw[e];exact h.act i rfl (.inl ⟨rfl,id⟩) (jM k _) ⟨o.1,Cn.Ok.all_nil,o.2.2⟩ c1 hir r3
 refine h.act i (d:={ p.sd i with c:=((p.sd i).c.recv p.now n).1,got:=(p.sd i).got++(p.sd i).c.bx.takeS n,fin:=(p.sd i).fin||(p.sd i).c.recvE n }) rfl (.inl ⟨rfl,id⟩) (jM k _) o c1 hir (fun hf=> ?_);dsimp only at hf|-;rw[Bool.or_eq_true]at hf
 rcases hf with hf | hf
 ·have:=r3 hf;have hg:=c1.pi.got_le;rw[List.length_append]at hg|-;exact⟨this.1,by omega⟩
 exact c4 hf
theorem PV.shut (h:PV P p)(k:Fit p q r)(i:Bool):PV P (p.shut i):=by
 have hs:=k.sd i;obtain⟨a1,a2⟩:=h.s i;obtain⟨r1,r2,r3⟩:=h.r i;unfold Pr.shut;dsimp only;split
 ·exact h
 split
 ·exact h
 rename_i he;have he:(p.sd i).c.closeE=0:=by simpa using he
 obtain⟨f1,f2⟩:=uK (p.sd i).c p.now he;have o:=a1.close hs.c k.in64 a2 he;refine h.act i (d:={ p.sd i with c:=((p.sd i).c.close p.now).1,closed:=true }) rfl (.inl ⟨rfl,fun _=>rfl⟩) (jM k _) o (r1.fx f1) ?_ r3;show Ir _ ((p.sd i).c.close p.now).1
 rcases r2 with r2 | r2 | r2
 ·unfold Cn.closeE at he;rw[if_pos (.inl r2)]at he
  cases he
 ·exact .inl (f2 r2)
 exact .inr (.inr (f1.irs.trans r2))
theorem PV.viol1 (h:PV P p)(k:Fit p q r)(i:Bool):viol1 (p.sd i) (p.sd (!i))=false:=by
 obtain⟨r1,r2,r3⟩:=h.r i;have ho:=k.sd (!i);have hsl:=ho.strlen;have hg:=r1.pi.got_le;have hgt:=r1.pi.got;have h0:=ho.s0;have hle:=ho.sl;unfold Pr.viol1;rw[Bool.or_eq_false_iff,Bool.or_eq_false_iff,decide_eq_false_iff_not,decide_eq_false_iff_not];refine⟨by omega,fun hx=>hx ?_,?_⟩
 ·have e:(p.sd (!i)).str.take (p.sd i).got.length=(p.sd (!i)).all.take (p.sd i).got.length:=by
   unfold Sd.str;rw[List.take_take]
   congr 1
   omega
  rw[show min (p.sd i).got.length (p.sd (!i)).all.length=(p.sd i).got.length by omega,<-e];exact hgt
 cases hf:(p.sd i).fin with
 | false=>rfl
 | true =>
  obtain⟨e1,e2⟩:=r3 hf;rw[e1]
  simp
  omega
theorem PV.viol (h:PV P p)(k:Fit p q r):p.viol=0:=by
 have h1:=h.viol1 k false;have h2:=h.viol1 k true;unfold Pr.viol;have e1:Pr.viol1 p.a p.b=false:=h1;have e2:Pr.viol1 p.b p.a=false:=h2;rw[e1,e2];rfl
end Pr
end
section
namespace Pr
structure Al (P:Par)(p:Pr)(n:Int):Prop where
 run:xc p n
 pv:PV P p
 ml:p.Ml
variable {P : Par} {p : Pr} {n : Int}
theorem jN (p:Pr)(i:Bool)(d:Sd)(l:List Sg):((p.setSd i d).put i l).now=p.now:=((de i l _).2.2.1).trans (by cases i <;> rfl)
theorem uO (p:Pr)(i:Bool)(k:Int):(p.send i k).now=p.now:=by
 unfold send;dsimp only;split
 ·rfl
 split
 ·rfl
 exact jN _ _ _ _
theorem uP (p:Pr)(i:Bool)(k:Int):(p.recv i k).now=p.now:=by
 unfold recv;dsimp only;split
 ·cases i <;> rfl
 exact jN _ _ _ _
theorem uQ (p:Pr)(i:Bool):(p.shut i).now=p.now:=by
 unfold shut;dsimp only;split
 ·rfl
 split
 ·rfl
 exact jN _ _ _ _
theorem vf (h:p.Ml)(i:Bool)(k:Int):(p.send i k).Ml:=by
 unfold send;dsimp only;split
 ·exact h
 split
 ·exact h
 exact Ml.put (h.setSd _ _) _ _
theorem vg (h:p.Ml)(i:Bool)(k:Int):(p.recv i k).Ml:=by
 unfold recv;dsimp only;split
 ·exact h.setSd _ _
 exact Ml.put (h.setSd _ _) _ _
theorem vh (h:p.Ml)(i:Bool):(p.shut i).Ml:=by
 unfold shut;dsimp only;split
 ·exact h
 split
 ·exact h
 exact Ml.put (h.setSd _ _) _ _
namespace Al
theorem tick (h:Al P p n)(h0:0<=n)(hn:n+1<=5000)(hP:P.Ok):Al P p.tick (n+1):=⟨h.run.tick h0 hn,h.pv.tick h.run.1 (by have:=h.run.2;omega) hP,h.ml.tick⟩
theorem send (h:Al P p n)(i:Bool)(k:Int):Al P (p.send i k) (n+1) :=
 ⟨⟨(send_fit h.run.1 i k).mono (by omega) (by omega),by rw[uO];have:=h.run.2;omega⟩,h.pv.send h.run.1 i k,vf h.ml i k⟩
theorem recv (h:Al P p n)(i:Bool){k:Int}(hk:0<=k):Al P (p.recv i k) (n+1) :=
 ⟨⟨(recv_fit h.run.1 i k).mono (by omega) (by omega),by rw[uP];have:=h.run.2;omega⟩,h.pv.recv h.run.1 i hk,vg h.ml i k⟩
theorem shut (h:Al P p n)(i:Bool):Al P (p.shut i) (n+1) :=
 ⟨⟨(shut_fit h.run.1 i).mono (by omega) (by omega),by rw[uQ];have:=h.run.2;omega⟩,h.pv.shut h.run.1 i,vh h.ml i⟩
theorem mono (h:Al P p n){m:Int}(hm:n<=m):Al P p m:=⟨⟨h.run.1.mono (by omega) (by omega),by have:=h.run.2;omega⟩,h.pv,h.ml⟩
theorem bds (_h:Al P p n)(hn:n<=5000):3000*(n+1)<=90000000/\15003000*(n+1)<=90000000000:=by omega
theorem v (h:Al P p n):Pr.viol1 p.a p.b=false/\Pr.viol1 p.b p.a=false/\p.viol=0:=⟨h.pv.viol1 h.run.1 false,h.pv.viol1 h.run.1 true,h.pv.viol h.run.1⟩
theorem got (h:Al P p n)(i:Bool):(p.sd i).got.length<=1000:=Nat.le_trans (h.pv.r i).1.pi.got_le (jM h.run.1 _)
theorem opD (h:Al P p n)(x:Dv):Al P (p.opD x) (n+1):=by
 have:=aj x.n 200 (by decide);unfold Pr.opD;split
 ·exact h.send _ _
 split
 ·exact h.recv _ (by omega)
 split
 ·exact h.shut _
 exact h.mono (by omega)
theorem ticksV (hP:P.Ok):∀(k:Nat) {p:Pr} {n:Int},Al P p n->0<=n->n+k<=5000->Pr.ticksV k p=(Pr.ticks k p,true)/\Al P (Pr.ticks k p) (n+k):=by
 intro k
 induction k with
 | zero =>
  intro p n h _ _;refine⟨?_,by rw[show n+((0:Nat):Int)=n by omega];exact h⟩;show(p,decide (p.viol=0))=(p,true);rw[h.v.2.2];rfl
 | succ k ih =>
  intro p n h h0 hn;have h1:=h.tick h0 (by omega) hP;obtain⟨i1,i2⟩:=ih h1 (by omega) (by omega);refine⟨?_,by rw[show n+((k+1:Nat):Int)=n+1+(k:Nat) by omega];exact i2⟩;show(if 0<p.tick.viol then(p.tick,false)else Pr.ticksV k p.tick)=_;rw[h1.v.2.2,if_neg (by decide)];exact i1
theorem doD (h:Al P p n)(hP:P.Ok)(x:Dv)(h0:0<=n)(hn:n+21<=5000):p.doD x=(Pr.ticks (aR x.tick 20).toNat (p.opD x),true)/\Al P (p.doD x).1 (n+21):=by
 have hb:=aj x.tick 20 (by decide);obtain⟨i1,i2⟩:=ticksV hP (aR x.tick 20).toNat (h.opD x) (by omega) (by omega);unfold Pr.doD;rw[i1];exact⟨rfl,i2.mono (by omega)⟩
end Al
end Pr
end
theorem qA (x:Rw):(eM x).okB=true/\(di x).okB=true:=by
 have h1:=aj x.mss 100 (by decide);have h2:=aj x.roomA 400 (by decide);have h3:=aj x.roomB 400 (by decide);have h4:=aj x.keep 400 (by decide);unfold Cf.okB eM di gB;dsimp only;refine⟨decide_eq_true ?_,decide_eq_true ?_⟩ <;> omega
theorem qB:aI 0:=by unfold aI;decide
theorem uR (x:Rw):(fq 0 (eM x)).1.Ok:=((fB qB (qA x).1).step qB (by show(0:Int)<=12;decide) 1).synC
theorem re (x:Rw):(pZ 0 (eM x)).Ok:=(fB qB (qA x).1).step qB (by show(0:Int)<=12;decide) 1
theorem qC (x:Rw):(fu x).Ok:=(re x).synS_ok
theorem uS (x:Rw):(fu x).syn=true:=rfl
theorem kh (x:Rw):(fN 0 (di x) (fu x)).Ok:=((fB qB (qA x).2).meet (qC x) (uS x)).step qB (by show(0:Int)<=12;decide) 2
theorem vi (x:Rw):(cO 0 (di x) (fu x)).1.Ok:=(kh x).synC
def ji (x:Rw):Pr.Par:=⟨fun i=>match i with | false=>gB x.issA | true=>gB x.issB,28+aR x.mss 100,fun i=>match i with | false=>40+aR x.roomA 400 | true=>40+aR x.roomB 400⟩
theorem qD (x:Rw):(ji x).Ok:=by
 intro i
 cases i <;> (unfold ji gB;dsimp only;omega)
def gP (x:Rw)(fates:List Int)(n m:Nat):Pr:={ a:=x8 (fq 0 (eM x)).1 (dJ 0 n),b:=x8 (cO 0 (di x) (fu x)).1 (dJ 1 m),wire:=[],now:=0,fates:=fates,many:=0,log:=[] }
theorem uT (x:Rw)(fates:List Int)(n m:Nat):mp x fates n m=(gP x fates n m).put true [(fN 0 (di x) (fu x)).synS]:=rfl
theorem qE (s:Int)(n:Nat):(dJ s n).length=n:=by unfold dJ;rw[List.length_map,List.length_range]
theorem xm (x:Rw)(fates:List Int)(n m:Nat)(hf:fates.length<=1000)(hn:n<=1000)(hm:m<=1000):Pr.Fit (gP x fates n m) 2000 100:=by
 refine⟨⟨uR x,?_,Int.le_refl 0,?_,rfl,?_⟩,⟨vi x,?_,Int.le_refl 0,?_,rfl,?_⟩,⟨Int.le_refl 0,by show(0:Int)<=1000000;decide⟩,(fun f h=>nomatch h),(fun f h=>nomatch h),(fun f h=>nomatch h),?_,?_⟩
 ·show(dJ 0 n).length<=1000;rw[qE];exact hn
 ·show(0:Int)<=(dJ 0 n).length;omega
 ·show(1:Int)<=1+(0:Nat)+1;decide
 ·show(dJ 1 m).length<=1000;rw[qE];exact hm
 ·show(0:Int)<=(dJ 1 m).length;omega
 ·show(1:Int)<=1+(0:Nat)+1;decide
 ·have h1:(gP x fates n m).a.c.pot<=10:=by have e:Cn.pot (fq 0 (eM x)).1=3:=rfl;show Cn.pot (fq 0 (eM x)).1<=10;rw[e];decide
  have h2:(gP x fates n m).b.c.pot<=10:=by have e:Cn.pot (cO 0 (di x) (fu x)).1=3:=rfl;show Cn.pot (cO 0 (di x) (fu x)).1<=10;rw[e];decide
  unfold Pr.Q Pr.rem;show((0:Nat):Int)+max 0 ((fates.length:Int)-(0:Nat))+_+_<=2000;omega
 have h1:(gP x fates n m).a.c.pot<=10:=by have e:Cn.pot (fq 0 (eM x)).1=3:=rfl;show Cn.pot (fq 0 (eM x)).1<=10;rw[e];decide
 have h2:(gP x fates n m).b.c.pot<=10:=by have e:Cn.pot (cO 0 (di x) (fu x)).1=3:=rfl;show Cn.pot (cO 0 (di x) (fu x)).1<=10;rw[e];decide
 unfold Pr.R;show((0:Nat):Int)+_+_<=100;omega
theorem xn (x:Rw):SI ⟨[],false,gB x.issA,28+aR x.mss 100,40+aR x.roomA 400,40+aR x.roomB 400⟩ (fq 0 (eM x)).1:=by
 have h3:=aj x.roomB 400 (by decide);exact⟨Int.le_refl 1,rfl,rfl,by show(1:Int)<=1+(0:Nat)+0;decide,(fun h=>nomatch h),by show(1:Int)<=max 0 1;decide,Int.le_refl 1,rfl,Nat.zero_le _,by show(0:Int)<=1+(40+aR x.roomB 400);omega,(fun h=>absurd h (by show ¬(1:Int)<=0;decide)),by show min (1:Int) (1+(0:Nat))<=0+1;decide,Int.le_refl _,rfl⟩
theorem wE (x:Rw):SI ⟨[],false,gB x.issB,28+aR x.mss 100,40+aR x.roomB 400,40+aR x.roomA 400⟩ (fN 0 (di x) (fu x)):=by
 have h3:=aj x.roomA 400 (by decide);have h2:=aj x.mss 100 (by decide);exact⟨Int.le_refl 1,rfl,rfl,by show(1:Int)<=1+(0:Nat)+0;decide,(fun h=>nomatch h),by show(1:Int)<=max 0 1;decide,Int.le_refl 1,rfl,Nat.zero_le _,by show max (0:Int) (1+(40+aR x.roomA 400))<=1+(40+aR x.roomA 400);omega,(fun h=>absurd h (by show ¬(1:Int)<=0;decide)),by show min (1:Int) (1+(0:Nat))<=max (0:Int) (1+(40+aR x.roomA 400))+1;omega,by show min (28+aR x.mss 100) (if 28+aR x.mss 100=0 then 28 else 28+aR x.mss 100)<=28+aR x.mss 100;omega,rfl⟩
theorem xw (n:Nat)(h1:1<=n)(h2:n<=8192){c:Cn}(hb:c.bx=pY n)(he:c.ended=false):RB [] false c [] :=
 ⟨by rw[hb];exact PI.start rfl (by decide) h1 h2,fun h=>by rw[he]at h;cases h⟩
theorem yA (x:Rw)(fates:List Int)(n m:Nat):Pr.PV (ji x) (gP x fates n m):=by
 have h2:=aj x.roomA 400 (by decide);have h3:=aj x.roomB 400 (by decide);refine⟨fun i=> ?_,fun i=> ?_,(fun f h=>nomatch h),fun L f M h=> ?_⟩
 ·cases i
  ·exact⟨xn x,fun h=>absurd h (by show ¬(3:Int)<=1;decide)⟩
  exact⟨(wE x).synC,fun h=>absurd h (by show ¬(3:Int)<=2;decide)⟩
 ·cases i
  ·refine⟨xw (40+aR x.roomA 400).toNat (by omega) (by omega) rfl rfl,.inr (.inl rfl),(fun h=>nomatch h)⟩
  refine⟨xw (40+aR x.roomB 400).toNat (by omega) (by omega) rfl rfl,.inr (.inr ?_),(fun h=>nomatch h)⟩;show bt (gB x.issA) 0=gB x.issA;unfold bt gB;omega
 have:=congrArg List.length h;rw[List.length_append]at this
 simp[gP]at this
theorem oH (x:Rw)(fates:List Int)(n m:Nat)(hf:fates.length<=1000)(hn:n<=1000)(hm:m<=1000):Pr.Al (ji x) (mp x fates n m) 0:=by
 have hs:=(kh x).synS_ok;rw[uT];refine⟨⟨(Pr.put_fit true [(fN 0 (di x) (fu x)).synS] (xm x fates n m hf hn hm) (Cn.Ok.one_sg hs)).mono (by show(2000:Int)+1<=3000*(0+1);decide) (by show(100:Int)+1<=15003000*(0+1);decide),?_⟩,?_,Pr.Ml.put (show(gP x fates n m).Ml from rfl) _ _⟩
 ·rw[(de _ _ _).2.2.1];exact Int.le_refl 0
 exact Pr.PV.put true _ (yA x fates n m) (Cn.Ok.one_sg ((wE x).syn (kh x)))
section
set_option maxHeartbeats 8000000
set_option maxRecDepth 100000
open Go.RowKit Go.Shelf
def pT (f:Fp)(w:World)(vals:Value->Value)(L:List Sg)(d:Cn)(e:Ending)(w':World):Prop:=∃v,e= .returned (vals v)/\aJ w' w.heap.size v L/\CnAt f d w'/\ChgF f w w'
def Cn.sentN (c:Cn)(s:List UInt8):Int:=if c.refusal=0 then c.sendN s else 0
def Cn.heldC (c:Cn)(s:List UInt8)(n:Int):Cn:={ c with held:=c.held++s.take n.toNat }
def Cn.shutC (c:Cn):Cn:={ c with shut:=true }
def kj (n er:Int)(v:Value):Value:=.tuple #[n,v,er]
def jO (er:Int)(v:Value):Value:=.tuple #[v,er]
theorem lm (f:Fp) (c:Cn) (now:Int) (s:List UInt8) (w:World) (h:CnAt f c w) (ok:c.Ok) (hn:aI now) (hb:c.last+s.length<=1073741824) :
  Calls Tryz.prog 31 #[f.C,now,.string ⟨s.toArray⟩] w (pT f w (kj (c.sentN s) c.refusal) (c.send now s).2 (c.send now s).1):=by
 have HN:=hid hn;have hgt:=h.gl.top;have hlt:=h.lt;have HO:=hid ok;have HS:=hid (Lw.start h);clear h ok hn;obtain⟨R,hR⟩:∃R,R=c.send now s:=⟨_,rfl⟩;rw[<-hR];have HR:=hid hR;clear hR;obtain⟨V,hV⟩:∃V,V=c.sentN s:=⟨_,rfl⟩;rw[<-hV];have HV:=hid hV;clear hV;have HB:=hid hb;clear hb;obtain⟨r,hr⟩:∃r,r=c.refusal:=⟨_,rfl⟩;rw[<-hr];have bc:=hid hr;have hz:(⟨s.toArray⟩:ByteArray).size=s.length:=by simp[ByteArray.size]
 go_enter Tryz.func31,Tryz.ntmps31
 go_wp2_with fail;refine(fg f c _ HS.cn).mono ?_;rintro e w1⟨rfl,hb⟩;replace HS:=hid (HS.bel hb);clear hb;rw[<-hr];clear hr;by_cases hq:r=0
 ·have HQ:=hid hq;have hq1:(r==0)=true:=beq_iff_eq.2 hq;have hq2:(r != 0)=false:=by rw[hq];rfl
  clear hq;replace HV:=hid (show V=c.sendN s by rw[HV.o];exact if_pos (bc.symm.trans HQ.o));replace HR:=hid (HR.trans (by unfold Cn.send;rw[if_neg (fun h=>h (bc.symm.trans HQ.o))]));have cM:=hid (show 0<=c.space/\c.space<=8192 by have h1:=HO.cfr;unfold Cn.space;split <;> omega);go_wp2_with fail;refine(pA f c _ HS.cn (by have:=HO.hlen;omega) (by have:=HO.cfr;omega)).mono ?_;rintro e w2⟨rfl,hb⟩;replace HS:=hid (HS.bel hb);clear hb;have hsp:=cM.o;have hsl:s.length<=1073741824:=by have h1:=HB.o;have h2:=HO.b0;unfold Cn.last at h1;omega
  obtain⟨sp,hspq⟩:∃sp,sp=c.space:=⟨_,rfl⟩;rw[<-hspq]at hsp|-;have cS:=hid hspq;clear hspq;obtain⟨n,hn⟩:∃n:Int,n=min (s.length:Int) sp:=⟨_,rfl⟩;have ab:=hid (show c.sendN s=n by unfold Cn.sendN;rw[<-cS.o,hn]);have c3:=HS.cn.cell 3 (.string ⟨c.held.toArray⟩) rfl;have f3:=HS.cn.free 3;have cT:0<=n/\n<=s.length:=by omega
  go_wp2_with fail;rw[<-hn];clear hn;have hadd:∀W:World,(Op.stringOp .add (⟨c.held.toArray⟩:ByteArray) ((⟨s.toArray⟩:ByteArray).extract 0 n.toNat)).run Tryz.prog W= .ok (.string ⟨(c.held++s.take n.toNat).toArray⟩) W:=fun W=>by rw[ff,List.drop_zero];exact run_string_add_sum W _ _ (by have:=HO.hlen;simp[ByteArray.size];omega)
  refine bC (fun _:World=>True) (trivial) fun hZ=>?_;replace HS:=hid (HS.o.bel (Below.refl _ _).drew);replace c3:=HS.o.cn.cell 3 (.string ⟨c.held.toArray⟩) rfl;replace f3:=HS.o.cn.free 3;generalize hwd:World.drew _=w3d at HS c3 f3 hZ|-;clear hwd;refine aO 0 ?_ (hy:=by intro w hSw;skip;go_simp;(try with_reducible rfl));refine aO 1 ?_ (hy:=by intro w hSw;skip;go_simp;(try with_reducible rfl));refine aO 2 ?_ (hy:=by intro w hSw;skip;go_simp;(try with_reducible rfl));refine aO 3 ?_ (hy:=by intro w hSw;skip;go_simp;(try with_reducible rfl));refine aO 5 ?_ (hy:=by intro w hSw;skip;go_simp;(try with_reducible rfl));refine aO 6 ?_ (hy:=by intro w hSw;skip;go_simp;(try with_reducible rfl));refine aO 7 ?_ (hy:=by intro w hSw;skip;go_simp;(try with_reducible rfl));refine aX 4 fun Kq hKq=> ?_;go_simp;refine hKq.out _ _ (trivial) ?_;clear hKq Kq hZ;refine fun hZ=>aT ?_;refine aO 8 ?_ (hy:=by intro w hSw;skip;go_simp;(try with_reducible rfl));refine aO 9 ?_ (hy:=by intro w hSw;skip;go_simp;(try with_reducible rfl));refine aO 10 ?_ (hy:=by intro w hSw;skip;go_simp;(try with_reducible rfl));refine aO 11 ?_ (hy:=by intro w hSw;skip;go_simp;(try with_reducible rfl));refine aX 12 fun Kq hKq=> ?_;go_simp;refine hKq.out _ _ (trivial) ?_;clear hKq Kq hZ;refine fun hZ=>aT ?_;refine az ?_ _;clear hZ;replace HR:=hid (show R=(c.heldC s n).push now from HR.o.trans (by rw[ab.o];rfl));have a0:=hid (show(c.heldC s n).Ok from { HO.o with b1:=by have:=HB.o;unfold Cn.last at this|-;show c.base+((c.held++s.take n.toNat).length:Int)<=_;rw[List.length_append,List.length_take];omega });replace HS:=hid (HS.o.call (HS.o.cn.set 3 (.string ⟨(c.held++s.take n.toNat).toArray⟩) (c.heldC s n) rfl rfl rfl rfl rfl) (.ofC ((Chg.refl _ _).setCell 3 _)));clear c3 f3 hadd;generalize c.heldC s n=d at HS a0 HR;go_wp2_with fail;refine(ai f d now _ HS.o.cn a0.o HN.o).mono ?_;rintro e wz⟨v,rfl,hl,hc,hch⟩;have HL:=hid (aJ.low hl HS.o.ch.size);have ac:=hid hc;have ad:=hid (HS.o.ch.trans hch);clear hl hc hch;go_wp2_with fail
  go_ret3
  exact⟨_,by rw[HV.o,ab.o,HQ.o];rfl,by rw[HR.o];exact HL.o,by rw[HR.o];exact ac.o,ad.o⟩
 have HQ:=hid hq;have hq1:(r==0)=false:=beq_eq_false_iff_ne.2 hq;have hq2:(r != 0)=true:=bne_iff_ne.2 hq;clear hq;replace HV:=hid (show V=0 by rw[HV.o];exact if_neg (fun h=>HQ.o (bc.trans h)));replace HR:=hid (HR.trans (by unfold Cn.send;rw[if_pos (fun h=>HQ.o (bc.trans h))]));go_wp2_with fail
 go_ret3
 exact⟨_,by rw[HV.o];rfl,by rw[HR.o];exact aJ.nil _ _,by rw[HR.o];exact HS.cn,HS.ch⟩
theorem uc (f:Fp) (c:Cn) (w:World) (h:CnAt f c w) (ok:c.Ok) :
  Calls Tryz.prog 42 #[f.C] w fun e w'=>e= .returned (.tuple #[(c.bx.nx-c.bx.rd:Int),c.reached])/\Below w.heap.size w w':=by
 have HO:=hid ok;have HC:=hid h;have HB:=hid (Below.refl w.heap.size w);clear h ok
 go_enter Tryz.func42,Tryz.ntmps42
 go_wp2_with fail;refine bC (fun W:World=>W.cell? ⟨f.C,11,none⟩=some (f.X:Y)) (HC.cell 11 f.X rfl) fun hZ=>?_;have hb:Below w.heap.size w w.drew:=(Below.refl _ _).drew;replace HB:=hid (aZ HB.o hb);replace HC:=hid (HC.below hb);clear hb;generalize w.drew=wd at HC HB hZ|-;refine aB 0 1 2 3 ?_;refine aB 4 6 7 8 ?_;refine aX 5 fun Kq hKq=> ?_;go_simp;refine(jk f.X f.R 0 c.bx _ HC.bx HO.bx).mono ?_;rintro e w3⟨rfl,rfl⟩;have hb:Below wd.heap.size wd wd.drew:=(Below.refl _ _).drew;replace HB:=hid (aZ HB.o hb);replace HC:=hid (HC.below hb);clear hb;generalize wd.drew=we at HC HB|-;go_simp;refine hKq.out _ _ (HC.cell 11 f.X rfl) ?_;clear hKq Kq hZ;refine fun hZ=>aT ?_;refine aX 9 fun Kq hKq=> ?_;go_simp;refine(bw f c _ HC.o).mono ?_;rintro e w4⟨rfl,hb⟩;replace HB:=hid (aZ HB.o hb);replace HC:=hid (HC.below hb);clear hb;go_simp;refine hKq.out _ _ (HC.cell 11 f.X rfl) ?_;clear hKq Kq hZ;refine fun hZ=>aT ?_;refine aK 10 11 ?_;refine az ?_ _;clear hZ;go_wp2_with fail
 go_ret2
 exact⟨rfl,HB.o⟩
theorem kl (f:Fp) (c:Cn) (now:Int) (w:World) (h:CnAt f c w) (ok:c.Ok) (hn:aI now) :
  Calls Tryz.prog 82 #[f.C,now] w (pT f w (jO c.closeE) (c.close now).2 (c.close now).1):=by
 have cX:=hid ok.tr2;have HN:=hid hn;have hgt:=h.gl.top;have hlt:=h.lt;have HO:=hid ok;have HS:=hid (Lw.start h);clear h ok hn;obtain⟨R,hR⟩:∃R,R=c.close now:=⟨_,rfl⟩;rw[<-hR];have HR:=hid hR;clear hR;obtain⟨er,hE⟩:∃er,er=c.closeE:=⟨_,rfl⟩;rw[<-hE];have HE:=hid hE;clear hE
 go_enter Tryz.func82,Tryz.ntmps82
 go_wp2_with fail;refine(bV f c _ HS.cn).mono ?_;rintro e w1⟨rfl,hb⟩;replace HS:=hid (HS.bel hb);clear hb;by_cases h0:c.st=0
 ·replace HR:=hid (HR.trans (by unfold Cn.close;rw[if_pos (.inl h0)]));replace HE:=hid (HE.trans (by unfold Cn.closeE;rw[if_pos (.inl h0)]));have hd0:decide (c.st=0)=true:=decide_eq_true h0;clear h0;go_wp2_with fail
  go_ret2
  exact⟨_,by rw[HE.o];rfl,by rw[HR.o];exact aJ.nil _ _,by rw[HR.o];exact HS.cn,HS.ch⟩
 have H0:=hid h0;have hd0:decide (c.st=0)=false:=decide_eq_false h0;clear h0;by_cases hs:c.shut=true
 ·have av:=hid hs;replace HR:=hid (HR.trans (by unfold Cn.close;rw[if_pos (.inr av.o)]));replace HE:=hid (HE.trans (by unfold Cn.closeE;rw[if_pos (.inr av.o)]));have c9:=(HS.cn.cell 9 c.shut rfl).trans (by rw[av.o]);clear hs;go_wp2_with fail
  go_ret2
  exact⟨_,by rw[HE.o];rfl,by rw[HR.o];exact aJ.nil _ _,by rw[HR.o];exact HS.cn,HS.ch⟩
 have av:=hid (show c.shut=false by simpa using hs);replace HE:=hid (HE.trans (by unfold Cn.closeE;rw[if_neg (by rintro (h | h);exact H0.o h;exact absurd (av.symm.trans h) (by decide))]));replace HR:=hid (show R=if c.shutC.st=1 then(c.shutC.finish now 5 183,[])else if c.shutC.st=2 then c.shutC.push now else(c.shutC.step now 5).push now from HR.trans (by unfold Cn.close;rw[if_neg (by rintro (h | h);exact H0.o h;exact absurd (av.symm.trans h) (by decide))];rfl));clear hs;have c9:=(HS.cn.cell 9 c.shut rfl).trans (by rw[av.o]);have f9:=HS.cn.free 9;have ag:=HS.cn.cell 28 c.st rfl;have a0:=hid (show c.shutC.Ok from { HO.o with });have cY:=hid (show c.shutC.tries<=12 from cX.o H0.o);have ab:=hid (HS.call (HS.cn.set 9 true c.shutC rfl rfl rfl rfl rfl) (.ofC ((Chg.refl _ _).setCell 9 _)));by_cases h1:c.st=1
 ·have H1:=hid h1;rw[h1]at ag;clear h1;replace HR:=hid (HR.trans (if_pos (show c.shutC.st=1 from H1.o)));go_wp2_with fail;replace HS:=ab;clear ab c9 f9;clear ag;refine(db f c.shutC now 5 183 _ HS.cn a0.st (by decide)).mono ?_;rintro e w9⟨rfl,hc,hch⟩;replace HS:=hid (HS.call hc hch);clear hc hch;go_wp2_with fail
  go_ret2
  exact⟨_,by rw[HE.o];rfl,by rw[HR.o];exact aJ.nil _ _,by rw[HR.o];exact HS.cn,HS.ch⟩
 have H1:=hid h1;clear h1;by_cases h2:c.st=2
 ·have H2:=hid h2;rw[h2]at ag;clear h2;replace HR:=hid (HR.trans ((if_neg (show ¬c.shutC.st=1 from H1.o)).trans (if_pos (show c.shutC.st=2 from H2.o))));go_wp2_with fail;replace HS:=ab;clear ab c9 f9;clear ag;refine(ai f c.shutC now _ HS.cn a0.o HN.o).mono ?_;rintro e wz⟨v,rfl,hl,hc,hch⟩;have HL:=hid (aJ.low hl HS.ch.size);have ac:=hid hc;have ad:=hid (HS.ch.trans hch);clear hl hc hch;go_wp2_with fail
  go_ret2
  exact⟨_,by rw[HE.o];rfl,by rw[HR.o];exact HL.o,by rw[HR.o];exact ac.o,ad.o⟩
 have H2:=hid h2;have h1b:(c.st==1)=false:=beq_eq_false_iff_ne.2 H1.o;have c7:(c.st==2)=false:=beq_eq_false_iff_ne.2 h2;clear h2;replace HR:=hid (HR.trans ((if_neg (show ¬c.shutC.st=1 from H1.o)).trans (if_neg (show ¬c.shutC.st=2 from H2.o))));go_wp2_with fail;replace HS:=ab;clear ab c9 f9;clear ag;refine(bz f c.shutC now 5 _ HS.cn a0.st (by decide)).mono ?_;rintro e w9⟨rfl,hc,hch⟩;replace HS:=hid (HS.call hc hch);clear hc hch;go_wp2_with fail;refine(ai f (c.shutC.step now 5) now _ HS.cn (a0.step HN.o cY.o 5) HN.o).mono ?_;rintro e wz⟨v,rfl,hl,hc,hch⟩;have HL:=hid (aJ.low hl HS.ch.size);have ac:=hid hc;have ad:=hid (HS.ch.trans hch);clear hl hc hch;go_wp2_with fail
 go_ret2
 exact⟨_,by rw[HE.o];rfl,by rw[HR.o];exact HL.o,by rw[HR.o];exact ac.o,ad.o⟩
end
section
set_option maxHeartbeats 8000000
set_option maxRecDepth 100000
open Go.RowKit Go.Shelf
theorem aq {fn:Func}{t u v x:Tmp}(h:fn.results= #[.tmp t,.tmp u,.tmp v,.tmp x])(tmps:Array Value)(P:Program)(w:World) :
  (results fn tmps).run P w= .ok (.tuple #[tmps.getD t undef,tmps.getD u undef,tmps.getD v undef,tmps.getD x undef]) w:=by
 simp[results,h]
def km (s:List UInt8)(en:Bool)(er:Int)(v:Value):Value:=.tuple #[.string ⟨s.toArray⟩,en,v,er]
def Cn.recvT (c:Cn)(n:Int):List UInt8:=if n<0 then []else c.bx.takeS n
def Cn.recvF (c:Cn)(n:Int):Bool:=if n<0 then false else if c.recvErr n=0 then c.recvE n else false
def Cn.takeC (c:Cn)(n:Int):Cn:={ c with bx:=c.bx.take n }
theorem ln (f:Fp) (c:Cn) (now n:Int) (w:World) (h:CnAt f c w) (ok:c.Ok) (hn:aI now) :
  Calls Tryz.prog 78 #[f.C,now,n] w (pT f w (km (c.recvT n) (c.recvF n) (c.recvErr n)) (c.recv now n).2 (c.recv now n).1):=by
 have HN:=hid hn;have hgt:=h.gl.top;have hlt:=h.lt;have HO:=hid ok;have HS:=hid (Lw.start h);clear h ok hn;obtain⟨R,hR⟩:∃R,R=c.recv now n:=⟨_,rfl⟩;rw[<-hR];have HR:=hid hR;clear hR;obtain⟨TT,hT⟩:∃TT,TT=c.recvT n:=⟨_,rfl⟩;obtain⟨FF,hF⟩:∃FF,FF=c.recvF n:=⟨_,rfl⟩;obtain⟨ER,hE⟩:∃ER,ER=c.recvErr n:=⟨_,rfl⟩;rw[<-hT,<-hF,<-hE];have HT:=hid hT;have HF:=hid hF;have HE:=hid hE;clear hT hF hE
 go_enter Tryz.func78,Tryz.ntmps78
 by_cases h0:n<0
 ·replace HR:=hid (HR.trans (by unfold Cn.recv;rw[if_pos h0]));replace HT:=hid (HT.trans (if_pos h0));replace HF:=hid (HF.trans (if_pos h0));replace HE:=hid (HE.trans (if_pos h0));have hd0:decide (n<0)=true:=decide_eq_true h0;clear h0;go_wp2_with fail
  (try simp only[Exit.inBlock,Exit.then])
  refine bodyPost_ret (aq rfl _ _ _) rfl ?_;exact⟨_,by rw[HT.o,HF.o,HE.o];rfl,by rw[HR.o];exact aJ.nil _ _,by rw[HR.o];exact HS.cn,HS.ch⟩
 have H0:=hid h0;have hd0:decide (n<0)=false:=decide_eq_false h0;clear h0;have a6:=hid (show ¬n<0 by have:=H0.o;omega);replace HT:=hid (HT.trans (if_neg (by have:=a6.o;omega)));replace HF:=hid (HF.trans (if_neg (by have:=a6.o;omega)));replace HR:=hid (show R=if c.bx.takeS n=[]then(c.takeC n,[])else if(c.takeC n).growsB (c.takeC n).mss=false\/ao (c.takeC n).st=false then(c.takeC n,[])else(c.takeC n).ackNow.push now from HR.trans (by unfold Cn.recv;rw[if_neg (by have:=a6.o;omega)];rfl));have a0:=hid (show(c.takeC n).Ok from HO.take n);have bd:=hid (show c.recvE n=((c.takeC n).reached&&decide ((c.takeC n).bx.nx-(c.takeC n).bx.rd=0))from rfl);have HST:=hid (show(c.takeC n).st=c.st/\(c.takeC n).failure=c.failure from⟨rfl,rfl⟩);have c11:=HS.cn.cell 11 f.X rfl;go_wp2_with fail;clear c11;refine(sV f.X f.R 0 c.bx n _ HS.cn.bx HO.bx).mono ?_;rintro e w2⟨rfl,hx,hch⟩;have ax:Chg2 f.X f.R _ w2:=.of1 hch;replace HS:=hid (show Lw f w (.slice none 0 0) [] (c.takeC n) w2 from HS.call (HS.cn.onX hx ax) (.ofX ax));clear hx hch ax;generalize hd:c.takeC n=d at HS a0 HR bd HST;clear hd;obtain⟨S,hS⟩:∃S,S=c.bx.takeS n:=⟨_,rfl⟩;rw[<-hS]at HT HR|-;have be:=hid hS;clear hS;go_wp2_with fail;refine(bw f d _ HS.cn).mono ?_;rintro e w3⟨rfl,hb⟩;replace HS:=hid (HS.bel hb);clear hb;by_cases hr:d.reached=true
 ·have bn:=hr;have bl:=hid hr;clear hr;have c11:=HS.cn.cell 11 f.X rfl;go_wp2_with fail;clear c11;refine(jk f.X f.R 0 d.bx _ HS.cn.bx a0.bx).mono ?_;rintro e w4⟨rfl,rfl⟩;replace HS:=hid (HS.bel (Below.refl _ _).drew);generalize hwd:World.drew _=w5 at HS|-;clear hwd;clear bn;by_cases hl:d.bx.nx-d.bx.rd=0
  focus
   have c0:((d.bx.nx-d.bx.rd)==0)=true:=beq_iff_eq.2 hl;have a9:=hid (show c.recvE n=true by rw[bd.o,bl.o,decide_eq_true hl];rfl);clear hl;have al:=HE;by_cases hse:S=[]
   ·have am:=hid hse;subst hse;replace HR:=hid (HR.trans (by rw[if_pos rfl]));go_wp2_with fail;refine(bV f d _ HS.cn).mono ?_;rintro e w6⟨rfl,hb⟩;replace HS:=hid (HS.bel hb);clear hb;by_cases hz:d.st=0
    focus
     have HZ:=hid hz;have hzd:decide (d.st=0)=true:=decide_eq_true hz;clear hz;have aF:=hid (show c.recvErr n=0 by unfold Cn.recvErr;rw[if_neg (by have:=a6.o;omega),if_neg (fun h=>by have:=a9.symm.trans h.2.2;cases this)])
    rotate_left 1
    focus
     have HZ:=hid hz;have hzd:decide (d.st=0)=false:=decide_eq_false hz;clear hz;have aF:=hid (show c.recvErr n=0 by unfold Cn.recvErr;rw[if_neg (by have:=a6.o;omega),if_neg (fun h=>HZ.o (HST.1.trans h.2.1))])
    all_goals
     replace HF:=hid (HF.trans ((if_pos (show c.recvErr n=0 from aF.o)).trans a9.o));replace HE:=hid (al.trans aF.o);go_wp2_with fail
     (try simp only[Exit.inBlock,Exit.then])
     refine bodyPost_ret (aq rfl _ _ _) rfl ?_;exact⟨_,by rw[HT.o,HF.o,HE.o];rfl,by rw[HR.o];exact aJ.nil _ _,by rw[HR.o];exact HS.cn,HS.ch⟩
  rotate_left 1
  focus
   have c0:((d.bx.nx-d.bx.rd)==0)=false:=beq_eq_false_iff_ne.2 hl;have a9:=hid (show c.recvE n=false by rw[bd.o,bl.o,decide_eq_false hl];rfl);clear hl;have al:=HE;by_cases hse:S=[]
   ·have am:=hid hse;subst hse;replace HR:=hid (HR.trans (by rw[if_pos rfl]));go_wp2_with fail;refine(bV f d _ HS.cn).mono ?_;rintro e w6⟨rfl,hb⟩;replace HS:=hid (HS.bel hb);clear hb;by_cases hz:d.st=0
    ·have HZ:=hid hz;have hzd:decide (d.st=0)=true:=decide_eq_true hz;clear hz;have aF:=hid (show c.recvErr n=c.failure by unfold Cn.recvErr;rw[if_neg (by have:=a6.o;omega),if_pos ⟨be.symm,HST.1.symm.trans HZ.o,a9.o⟩]);have bo:=hid (show c.failure≠0 by unfold Cn.failure;split;assumption;decide);replace HF:=hid (HF.trans (if_neg (by rw[aF.o];exact bo.o)));replace HE:=hid (al.trans (aF.trans HST.2.symm));go_wp2_with fail;refine(fe f d _ HS.cn).mono ?_;rintro e w7⟨rfl,hb⟩;replace HS:=hid (HS.bel hb);clear hb;go_wp2_with fail
     (try simp only[Exit.inBlock,Exit.then])
     refine bodyPost_ret (aq rfl _ _ _) rfl ?_;exact⟨_,by rw[HT.o,HF.o,HE.o];rfl,by rw[HR.o];exact aJ.nil _ _,by rw[HR.o];exact HS.cn,HS.ch⟩
    have HZ:=hid hz;have hzd:decide (d.st=0)=false:=decide_eq_false hz;clear hz;have aF:=hid (show c.recvErr n=0 by unfold Cn.recvErr;rw[if_neg (by have:=a6.o;omega),if_neg (fun h=>HZ.o (HST.1.trans h.2.1))]);replace HF:=hid (HF.trans ((if_pos (show c.recvErr n=0 from aF.o)).trans a9.o));replace HE:=hid (al.trans aF.o);go_wp2_with fail
    (try simp only[Exit.inBlock,Exit.then])
    refine bodyPost_ret (aq rfl _ _ _) rfl ?_;exact⟨_,by rw[HT.o,HF.o,HE.o];rfl,by rw[HR.o];exact aJ.nil _ _,by rw[HR.o];exact HS.cn,HS.ch⟩
  all_goals
   obtain⟨b,S',rfl⟩:=List.exists_cons_of_ne_nil hse;clear hse;replace HR:=hid (HR.trans (by rw[if_neg (List.cons_ne_nil b S')]));have aF:=hid (show c.recvErr n=0 by unfold Cn.recvErr;rw[if_neg (by have:=a6.o;omega),if_neg (fun h=>by have:=be.trans h.1;cases this)]);replace HF:=hid (HF.trans ((if_pos (show c.recvErr n=0 from aF.o)).trans a9.o));replace HE:=hid (al.trans aF.o);go_wp2_with fail;refine bC (fun W:World=>W.cell? ⟨f.C,7,none⟩=some (d.mss:Y)) (HS.cn.cell 7 d.mss rfl) fun hZ=>?_;replace HS:=hid (HS.bel (Below.refl _ _).drew);generalize hwd:World.drew _=w7d at HS hZ|-;clear hwd;refine aB 0 1 2 3 ?_;refine aB 4 5 6 7 ?_;refine aX 8 fun Kq hKq=> ?_;go_simp;refine(fd f d d.mss _ HS.cn a0.bx (by have:=a0.ann;omega) (by have:=a0.room;omega)).mono ?_;rintro e w8⟨rfl,hb⟩;replace HS:=hid (HS.bel hb);clear hb;go_simp;refine hKq.out _ _ (HS.cn.cell 7 d.mss rfl) ?_;clear hKq Kq hZ;refine fun hZ=>aT ?_;refine aB 9 10 11 12 ?_;refine aO 13 ?_;refine az ?_ _;clear hZ;by_cases hg:d.growsB d.mss=true
   ·have hgd:=hg;have HG:=hid hg;clear hg;have ag:=HS.cn.cell 28 d.st rfl;go_wp2_with fail;clear ag hgd;refine(bA d.st _).mono ?_;rintro e w9⟨rfl,rfl⟩;by_cases hk:ao d.st=true
    ·have b8:ia d.st=true:=hk;replace HR:=hid (HR.trans (by rw[if_neg (by rintro (h | h);(have:=HG.symm.trans h;cases this);(have:=hk.symm.trans h;cases this))]));clear hk;go_wp2_with fail;refine(br f d _ HS.cn).mono ?_;rintro e w9⟨rfl,hc,hch⟩;replace HS:=hid (HS.call hc hch);clear hc hch;go_wp2_with fail;refine(ai f d.ackNow now _ HS.cn a0.ackNow HN.o).mono ?_;rintro e wz⟨v,rfl,hl,hc,hch⟩;have HL:=hid (aJ.low hl HS.ch.size);have ac:=hid hc;have ad:=hid (HS.ch.trans hch);clear hl hc hch;go_wp2_with fail
     (try simp only[Exit.inBlock,Exit.then])
     refine bodyPost_ret (aq rfl _ _ _) rfl ?_;exact⟨_,by rw[HT.o,HF.o,HE.o];rfl,by rw[HR.o];exact HL.o,by rw[HR.o];exact ac.o,ad.o⟩
    have b8:ia d.st=false:=by cases hq:ia d.st with | false=>rfl | true=>exact absurd hq hk
    replace HR:=hid (HR.trans (by rw[if_pos (.inr (show ao d.st=false from b8))]));clear hk;go_wp2_with fail
    (try simp only[Exit.inBlock,Exit.then])
    refine bodyPost_ret (aq rfl _ _ _) rfl ?_;exact⟨_,by rw[HT.o,HF.o,HE.o];rfl,by rw[HR.o];exact aJ.nil _ _,by rw[HR.o];exact HS.cn,HS.ch⟩
   have hgd:d.growsB d.mss=false:=by simpa using hg
   replace HR:=hid (HR.trans (by rw[if_pos (.inl hgd)]));clear hg;go_wp2_with fail
   (try simp only[Exit.inBlock,Exit.then])
   refine bodyPost_ret (aq rfl _ _ _) rfl ?_;exact⟨_,by rw[HT.o,HF.o,HE.o];rfl,by rw[HR.o];exact aJ.nil _ _,by rw[HR.o];exact HS.cn,HS.ch⟩
 have bn:d.reached=false:=by simpa using hr
 have bl:=hid bn;clear hr;have a9:=hid (show c.recvE n=false by rw[bd.o,bl.o];rfl);have al:=HE;by_cases hse:S=[]
 ·have am:=hid hse;subst hse;replace HR:=hid (HR.trans (by rw[if_pos rfl]));go_wp2_with fail;refine(bV f d _ HS.cn).mono ?_;rintro e w6⟨rfl,hb⟩;replace HS:=hid (HS.bel hb);clear hb;by_cases hz:d.st=0
  ·have HZ:=hid hz;have hzd:decide (d.st=0)=true:=decide_eq_true hz;clear hz;have aF:=hid (show c.recvErr n=c.failure by unfold Cn.recvErr;rw[if_neg (by have:=a6.o;omega),if_pos ⟨be.symm,HST.1.symm.trans HZ.o,a9.o⟩]);have bo:=hid (show c.failure≠0 by unfold Cn.failure;split;assumption;decide);replace HF:=hid (HF.trans (if_neg (by rw[aF.o];exact bo.o)));replace HE:=hid (al.trans (aF.trans HST.2.symm));go_wp2_with fail;refine(fe f d _ HS.cn).mono ?_;rintro e w7⟨rfl,hb⟩;replace HS:=hid (HS.bel hb);clear hb;go_wp2_with fail
   (try simp only[Exit.inBlock,Exit.then])
   refine bodyPost_ret (aq rfl _ _ _) rfl ?_;exact⟨_,by rw[HT.o,HF.o,HE.o];rfl,by rw[HR.o];exact aJ.nil _ _,by rw[HR.o];exact HS.cn,HS.ch⟩
  have HZ:=hid hz;have hzd:decide (d.st=0)=false:=decide_eq_false hz;clear hz;have aF:=hid (show c.recvErr n=0 by unfold Cn.recvErr;rw[if_neg (by have:=a6.o;omega),if_neg (fun h=>HZ.o (HST.1.trans h.2.1))]);replace HF:=hid (HF.trans ((if_pos (show c.recvErr n=0 from aF.o)).trans a9.o));replace HE:=hid (al.trans aF.o);go_wp2_with fail
  (try simp only[Exit.inBlock,Exit.then])
  refine bodyPost_ret (aq rfl _ _ _) rfl ?_;exact⟨_,by rw[HT.o,HF.o,HE.o];rfl,by rw[HR.o];exact aJ.nil _ _,by rw[HR.o];exact HS.cn,HS.ch⟩
 obtain⟨b,S',rfl⟩:=List.exists_cons_of_ne_nil hse;clear hse;replace HR:=hid (HR.trans (by rw[if_neg (List.cons_ne_nil b S')]));have aF:=hid (show c.recvErr n=0 by unfold Cn.recvErr;rw[if_neg (by have:=a6.o;omega),if_neg (fun h=>by have:=be.trans h.1;cases this)]);replace HF:=hid (HF.trans ((if_pos (show c.recvErr n=0 from aF.o)).trans a9.o));replace HE:=hid (al.trans aF.o);go_wp2_with fail;refine bC (fun W:World=>W.cell? ⟨f.C,7,none⟩=some (d.mss:Y)) (HS.cn.cell 7 d.mss rfl) fun hZ=>?_;replace HS:=hid (HS.bel (Below.refl _ _).drew);generalize hwd:World.drew _=w7d at HS hZ|-;clear hwd;refine aB 0 1 2 3 ?_;refine aB 4 5 6 7 ?_;refine aX 8 fun Kq hKq=> ?_;go_simp;refine(fd f d d.mss _ HS.cn a0.bx (by have:=a0.ann;omega) (by have:=a0.room;omega)).mono ?_;rintro e w8⟨rfl,hb⟩;replace HS:=hid (HS.bel hb);clear hb;go_simp;refine hKq.out _ _ (HS.cn.cell 7 d.mss rfl) ?_;clear hKq Kq hZ;refine fun hZ=>aT ?_;refine aB 9 10 11 12 ?_;refine aO 13 ?_;refine az ?_ _;clear hZ;by_cases hg:d.growsB d.mss=true
 ·have hgd:=hg;have HG:=hid hg;clear hg;have ag:=HS.cn.cell 28 d.st rfl;go_wp2_with fail;clear ag hgd;refine(bA d.st _).mono ?_;rintro e w9⟨rfl,rfl⟩;by_cases hk:ao d.st=true
  ·have b8:ia d.st=true:=hk;replace HR:=hid (HR.trans (by rw[if_neg (by rintro (h | h);(have:=HG.symm.trans h;cases this);(have:=hk.symm.trans h;cases this))]));clear hk;go_wp2_with fail;refine(br f d _ HS.cn).mono ?_;rintro e w9⟨rfl,hc,hch⟩;replace HS:=hid (HS.call hc hch);clear hc hch;go_wp2_with fail;refine(ai f d.ackNow now _ HS.cn a0.ackNow HN.o).mono ?_;rintro e wz⟨v,rfl,hl,hc,hch⟩;have HL:=hid (aJ.low hl HS.ch.size);have ac:=hid hc;have ad:=hid (HS.ch.trans hch);clear hl hc hch;go_wp2_with fail
   (try simp only[Exit.inBlock,Exit.then])
   refine bodyPost_ret (aq rfl _ _ _) rfl ?_;exact⟨_,by rw[HT.o,HF.o,HE.o];rfl,by rw[HR.o];exact HL.o,by rw[HR.o];exact ac.o,ad.o⟩
  have b8:ia d.st=false:=by cases hq:ia d.st with | false=>rfl | true=>exact absurd hq hk
  replace HR:=hid (HR.trans (by rw[if_pos (.inr (show ao d.st=false from b8))]));clear hk;go_wp2_with fail
  (try simp only[Exit.inBlock,Exit.then])
  refine bodyPost_ret (aq rfl _ _ _) rfl ?_;exact⟨_,by rw[HT.o,HF.o,HE.o];rfl,by rw[HR.o];exact aJ.nil _ _,by rw[HR.o];exact HS.cn,HS.ch⟩
 have hgd:d.growsB d.mss=false:=by simpa using hg
 replace HR:=hid (HR.trans (by rw[if_pos (.inl hgd)]));clear hg;go_wp2_with fail
 (try simp only[Exit.inBlock,Exit.then])
 refine bodyPost_ret (aq rfl _ _ _) rfl ?_;exact⟨_,by rw[HT.o,HF.o,HE.o];rfl,by rw[HR.o];exact aJ.nil _ _,by rw[HR.o];exact HS.cn,HS.ch⟩
end
section
open Go.RowKit Go.Shelf
def pU (f:Fp)(s:Sd):List Value:=[f.C,.string ⟨s.all.toArray⟩,s.sent,.string ⟨s.got.toArray⟩,s.fin,s.closed]
def oI (F:Nat)(f:Fp)(s:Sd)(W:World):Prop:=W.heap[F]? =some (.cells (pU f s).toArray 36 (0,0))
theorem oI.lt {F:Nat}{f:Fp}{s:Sd}{W:World}(h:oI F f s W):F<W.heap.size:=(Array.getElem?_eq_some_iff.1 h).1
theorem oI.cell {F:Nat}{f:Fp}{s:Sd}{W:World}(h:oI F f s W)(i:Nat)(v:Value)(hv:(pU f s)[i]? =some v):W.cell? ⟨F,i,none⟩=some v:=by
 rw[cell_of_row _ _ _ _ _ _ h]
 simpa using hv
structure Ps (N:Nat)(t:Ft)(w:World)(F:Nat)(f:Fp)(s:Sd)(t1:Ft)(q:Pr)(W:World):Prop where
 st:PrSt N t w t1 q W
 row:oI F f s W
 nd:¬t1.D F
 lo:w.heap.size<=F
namespace Ps
variable {N F : Nat} {f : Fp} {s : Sd} {t t1 t2 : Ft} {q q' : Pr} {w W W' : World}
theorem new (h:PrSt N t w t1 q W)(f:Fp)(s:Sd):Ps N t w W.heap.size f s t1 q (W.alloc (.cells (pU f s).toArray 36)) :=
 ⟨h.bel ((Below.refl W.heap.size W).alloc (Nat.le_refl _) _),heap_alloc_new _ _,fun e=>Nat.lt_irrefl _ (h.pa.inD _ e).1,h.size⟩
theorem bel (h:Ps N t w F f s t1 q W)(hb:Below W.heap.size W W'):Ps N t w F f s t1 q W':=⟨h.st.bel hb,(hb.block F h.row.lt).trans h.row,h.nd,h.lo⟩
theorem step (h:Ps N t w F f s t1 q W)(k:PrSt N t1 W t2 q' W'):Ps N t w F f s t2 q' W' :=
 ⟨h.st.trans k,(k.fr.block F h.row.lt h.nd).trans h.row,fun e=>by
  rcases k.sub F e with h1 | h1
  ·exact h.nd h1
  ·exact Nat.lt_irrefl _ (Nat.lt_of_lt_of_le h.row.lt h1),h.lo⟩
theorem set (h:Ps N t w F f s t1 q W)(i:Nat)(v:Value)(q':Pr)(he:(dD t1 q).setIfInBounds i v=dD t1 q')(e1:q'.a.c=q.a.c)(e2:q'.b.c=q.b.c)(e3:q'.wire=q.wire)(e4:q'.log=q.log)(e5:q'.fates=q.fates):Ps N t w F f s t1 q' (W.setCell ⟨t.B,i,none⟩ v):=by
 rw[<-h.st.eB];exact h.step (h.st.pa.set i v q' he e1 e2 e3 e4 e5)
end Ps
theorem gZ (p:Pr)(i:Bool){c:Cn}(h:c=(p.sd i).c):p.setC i c=p:=by subst h;cases i <;> rfl
end
section
set_option maxHeartbeats 8000000
set_option maxRecDepth 100000
open Go.RowKit Go.Shelf
theorem iN (N:Nat) (t:Ft) (p:Pr) (i:Bool) (w:World) (q r:Int) (h:PrAt N t p w) (hk:Pr.Fit p q r) (hq:q<=90000000) (hr:r<=90000000000) (hm:p.Ml) :
  Calls Tryz.prog 43 #[t.B,(bI i)] w (jI N t w (p.shut i)):=by
 cases i
 ·have y0:w.cell? t.B=some (t.fa.C:Y):=h.cell 0 _ rfl;have y1:w.cell? ⟨t.B,1,none⟩=some (.string ⟨p.a.all.toArray⟩):=h.cell 1 _ rfl;have y2:w.cell? ⟨t.B,2,none⟩=some (p.a.sent:Y):=h.cell 2 _ rfl;have y3:w.cell? ⟨t.B,3,none⟩=some (.string ⟨p.a.got.toArray⟩):=h.cell 3 _ rfl;have y4:w.cell? ⟨t.B,4,none⟩=some (p.a.fin:Y):=h.cell 4 _ rfl;have y5:w.cell? ⟨t.B,5,none⟩=some (p.a.closed:Y):=h.cell 5 _ rfl;have b3:=hid hk.in64;have bu:=hid (Pr.shut_fit hk false);have bv:=hid hk.a.c;have cC:=hid hm;have cF:=hid hk.wlen;have b4:=hid hk.now;have b9:=hid h;show Calls _ _ #[t.B,(0:Int)] _ _;clear h hk hm;obtain⟨R,hR⟩:∃R,R=p.shut false:=⟨_,rfl⟩;rw[<-hR];have HR:=hid hR;clear hR
  go_enter Tryz.func43,Tryz.ntmps43
  by_cases hcl:p.a.closed=true
  ·go_wp2_with fail;refine bodyPost_ret (results_none rfl _ _ _) rfl ⟨rfl,t,?_⟩;rw[HR.o];have e:p.shut false=p:=by unfold Pr.shut;exact if_pos hcl
   rw[e];exact b9.alloc _
  replace hcl:p.a.closed=false:=by simpa using hcl
  go_wp2_with fail;clear y0 y1 y2 y3 y4 y5;change Code.wp _ _ _ _ (w.alloc (.cells (pU t.fa ({ p.a with closed:=false }:Sd)).toArray 36));have HS:=hid (Ps.new (PrSt.start b9.o) t.fa ({ p.a with closed:=false }:Sd));generalize hF:w.heap.size=F at HS|-;generalize w.alloc (.cells (pU t.fa ({ p.a with closed:=false }:Sd)).toArray 36)=w1 at HS|-;have ba:=hid hcl;clear hcl;refine bC (fun W:World=>W.cell? F=some (t.fa.C:Y)/\W.cell? ⟨t.B,13,none⟩=some (p.now:Y)) (⟨HS.row.cell 0 _ rfl,HS.st.cell 13 p.now rfl⟩) fun hZ=>?_;replace HS:=hid (HS.bel (Below.refl _ _).drew);generalize w1.drew=w3 at HS hZ|-;refine aB 0 1 2 3 ?_;refine aK 4 5 ?_;refine aX 6 fun Kq hKq=> ?_;go_simp;refine(kl t.fa p.a.c p.now _ HS.st.pa.a bv.o b3.o).mono ?_;rintro e w4⟨v,rfl,hl,hc,hch⟩;have k4:=HS.st.pa.onC false t.fa.G _ hc hch (.inl rfl);replace HS:=hid (HS.step k4);have cL:=hid hl;clear hl hc hch k4;dsimp only[jO];go_simp;refine hKq.out _ _ (⟨HS.row.cell 0 _ rfl,HS.st.cell 13 p.now rfl⟩) ?_;clear hKq Kq hZ;refine fun hZ=>aT ?_;refine aB 7 8 9 10 ?_;refine aO 11 ?_;refine az ?_ _;clear hZ;by_cases he:p.a.c.closeE=0
  ·have am:=hid (show p.shut false=(p.setSd false { p.a with c:=(p.a.c.close p.now).1,closed:=true }).put false (p.a.c.close p.now).2 from by unfold Pr.shut;dsimp only;rw[if_neg (by show ¬(p.a.closed=true);rw[ba.o];decide),if_neg (show ¬(p.sd false).c.closeE≠0 from fun hh=>hh he)];rfl);have c5:w4.cell? ⟨t.B,5,none⟩=some (p.a.closed:Y):=HS.st.cell 5 _ rfl;have f5:=HS.st.free 5;have HT:=hid (HS.set 5 true (p.setSd false { p.a with c:=(p.a.c.close p.now).1,closed:=true }) rfl rfl rfl rfl rfl rfl);go_wp2_with fail;clear c5 f5;generalize bb:w4.setCell ⟨t.B,5,none⟩ true=w5 at HT|-;have b5:=hid (show aJ w5 _ v _ from by rw[<-bb];exact cL.prFr HS.st.pa (by rw[<-HS.st.eB];exact(HS.st.pa.set 5 true (p.setSd false { p.a with c:=(p.a.c.close p.now).1,closed:=true }) rfl rfl rfl rfl rfl rfl).fr));clear bb;have b6:=hid (dS (X:=p.setSd false { p.a with c:=(p.a.c.close p.now).1,closed:=true }) (i:=false) (l:=(p.a.c.close p.now).2) (by rw[<-am.o];exact bu.o) (by have:=cF.o;show p.wire.length<=400000000;omega) (cC.setSd false _) (by omega));have a7:=cJ N _ _ false _ v _ _ HT.st.pa b5.o b6.1 b6.2.1 b6.2.2 b4.o;rw[HT.st.eB,show bI false=0 from rfl]at a7;refine a7.mono ?_;rintro e w6⟨rfl,t6,k6⟩;go_wp2_with fail
   go_end0
   exact⟨rfl,t6,by rw[HR.o,am.o];exact HT.st.trans k6⟩
  have hne:¬p.a.c.closeE=0:=he;go_wp2_with fail
  go_end0
  have e1:(p.a.c.close p.now).1=p.a.c:=by unfold Cn.closeE at hne;unfold Cn.close;split at hne;(rename_i hx;rw[if_pos hx]);exact absurd rfl hne
  have e2:p.shut false=p:=by unfold Pr.shut;dsimp only;rw[if_neg (by show ¬(p.a.closed=true);rw[ba.o];decide),if_pos (show(p.sd false).c.closeE≠0 from hne)]
  refine⟨rfl,?_⟩;rw[HR.o,e2];have:=HS.st;rw[gZ p false (show(p.a.c.close p.now).1=(p.sd false).c from e1)]at this;exact⟨_,this⟩
 have y0:w.cell? ⟨t.B,6,none⟩=some (t.fb.C:Y):=h.cell 6 _ rfl;have y1:w.cell? ⟨t.B,7,none⟩=some (.string ⟨p.b.all.toArray⟩):=h.cell 7 _ rfl;have y2:w.cell? ⟨t.B,8,none⟩=some (p.b.sent:Y):=h.cell 8 _ rfl;have y3:w.cell? ⟨t.B,9,none⟩=some (.string ⟨p.b.got.toArray⟩):=h.cell 9 _ rfl;have y4:w.cell? ⟨t.B,10,none⟩=some (p.b.fin:Y):=h.cell 10 _ rfl;have y5:w.cell? ⟨t.B,11,none⟩=some (p.b.closed:Y):=h.cell 11 _ rfl;have b3:=hid hk.in64;have bu:=hid (Pr.shut_fit hk true);have bv:=hid hk.b.c;have cC:=hid hm;have cF:=hid hk.wlen;have b4:=hid hk.now;have b9:=hid h;show Calls _ _ #[t.B,(1:Int)] _ _;clear h hk hm;obtain⟨R,hR⟩:∃R,R=p.shut true:=⟨_,rfl⟩;rw[<-hR];have HR:=hid hR;clear hR
 go_enter Tryz.func43,Tryz.ntmps43
 by_cases hcl:p.b.closed=true
 ·go_wp2_with fail;refine bodyPost_ret (results_none rfl _ _ _) rfl ⟨rfl,t,?_⟩;rw[HR.o];have e:p.shut true=p:=by unfold Pr.shut;exact if_pos hcl
  rw[e];exact b9.alloc _
 replace hcl:p.b.closed=false:=by simpa using hcl
 go_wp2_with fail;clear y0 y1 y2 y3 y4 y5;change Code.wp _ _ _ _ (w.alloc (.cells (pU t.fb ({ p.b with closed:=false }:Sd)).toArray 36));have HS:=hid (Ps.new (PrSt.start b9.o) t.fb ({ p.b with closed:=false }:Sd));generalize hF:w.heap.size=F at HS|-;generalize w.alloc (.cells (pU t.fb ({ p.b with closed:=false }:Sd)).toArray 36)=w1 at HS|-;have ba:=hid hcl;clear hcl;refine bC (fun W:World=>W.cell? F=some (t.fb.C:Y)/\W.cell? ⟨t.B,13,none⟩=some (p.now:Y)) (⟨HS.row.cell 0 _ rfl,HS.st.cell 13 p.now rfl⟩) fun hZ=>?_;replace HS:=hid (HS.bel (Below.refl _ _).drew);generalize w1.drew=w3 at HS hZ|-;refine aB 0 1 2 3 ?_;refine aK 4 5 ?_;refine aX 6 fun Kq hKq=> ?_;go_simp;refine(kl t.fb p.b.c p.now _ HS.st.pa.b bv.o b3.o).mono ?_;rintro e w4⟨v,rfl,hl,hc,hch⟩;have k4:=HS.st.pa.onC true t.fb.G _ hc hch (.inl rfl);replace HS:=hid (HS.step k4);have cL:=hid hl;clear hl hc hch k4;dsimp only[jO];go_simp;refine hKq.out _ _ (⟨HS.row.cell 0 _ rfl,HS.st.cell 13 p.now rfl⟩) ?_;clear hKq Kq hZ;refine fun hZ=>aT ?_;refine aB 7 8 9 10 ?_;refine aO 11 ?_;refine az ?_ _;clear hZ;by_cases he:p.b.c.closeE=0
 ·have am:=hid (show p.shut true=(p.setSd true { p.b with c:=(p.b.c.close p.now).1,closed:=true }).put true (p.b.c.close p.now).2 from by unfold Pr.shut;dsimp only;rw[if_neg (by show ¬(p.b.closed=true);rw[ba.o];decide),if_neg (show ¬(p.sd true).c.closeE≠0 from fun hh=>hh he)];rfl);have c5:w4.cell? ⟨t.B,11,none⟩=some (p.b.closed:Y):=HS.st.cell 11 _ rfl;have f5:=HS.st.free 11;have HT:=hid (HS.set 11 true (p.setSd true { p.b with c:=(p.b.c.close p.now).1,closed:=true }) rfl rfl rfl rfl rfl rfl);go_wp2_with fail;clear c5 f5;generalize bb:w4.setCell ⟨t.B,11,none⟩ true=w5 at HT|-;have b5:=hid (show aJ w5 _ v _ from by rw[<-bb];exact cL.prFr HS.st.pa (by rw[<-HS.st.eB];exact(HS.st.pa.set 11 true (p.setSd true { p.b with c:=(p.b.c.close p.now).1,closed:=true }) rfl rfl rfl rfl rfl rfl).fr));clear bb;have b6:=hid (dS (X:=p.setSd true { p.b with c:=(p.b.c.close p.now).1,closed:=true }) (i:=true) (l:=(p.b.c.close p.now).2) (by rw[<-am.o];exact bu.o) (by have:=cF.o;show p.wire.length<=400000000;omega) (cC.setSd true _) (by omega));have a7:=cJ N _ _ true _ v _ _ HT.st.pa b5.o b6.1 b6.2.1 b6.2.2 b4.o;rw[HT.st.eB,show bI true=1 from rfl]at a7;refine a7.mono ?_;rintro e w6⟨rfl,t6,k6⟩;go_wp2_with fail
  go_end0
  exact⟨rfl,t6,by rw[HR.o,am.o];exact HT.st.trans k6⟩
 have hne:¬p.b.c.closeE=0:=he;go_wp2_with fail
 go_end0
 have e1:(p.b.c.close p.now).1=p.b.c:=by unfold Cn.closeE at hne;unfold Cn.close;split at hne;(rename_i hx;rw[if_pos hx]);exact absurd rfl hne
 have e2:p.shut true=p:=by unfold Pr.shut;dsimp only;rw[if_neg (by show ¬(p.b.closed=true);rw[ba.o];decide),if_pos (show(p.sd true).c.closeE≠0 from hne)]
 refine⟨rfl,?_⟩;rw[HR.o,e2];have:=HS.st;rw[gZ p true (show(p.b.c.close p.now).1=(p.sd true).c from e1)]at this;exact⟨_,this⟩
end
end Go.Proofs.YtclkcmidhhfdmaaGreatDoor
