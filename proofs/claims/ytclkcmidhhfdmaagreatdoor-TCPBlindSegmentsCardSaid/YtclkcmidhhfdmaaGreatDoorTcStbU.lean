import Derived.Test.YtclkcmidhhfdmaaGreatDoorUb33
namespace Go.Proofs.YtclkcmidhhfdmaaGreatDoor
open Lib (hid)
def Av (s:Sc)(m i:Int):Bool:=decide (¬(aD (iM i s.sk)/3<m/\(iM i s.sk).length<3))
theorem uH {e a b:Int}(hab:a<=b):∀{L:List Sp},aI e L=true->(∀j,a<=j->j<b->¬af j L)->iM a L=iM b L:=by
 intro L
 induction L generalizing e with
 | nil=>intro _ _;rfl
 | cons x l ih =>
  intro h hn;rw[aB]at h;rw[bq,bq];by_cases h1:x.2<=a
  ·rw[if_pos h1,if_pos (by omega)];exact ih h.2 (fun j h2 h3 hm=>hn j h2 h3 (mem_cons.2 (.inr hm)))
  rw[if_neg h1];rw[if_neg];intro h2;exact hn (x.2-1) (by omega) (by omega) (mem_cons.2 (.inl (by omega)))
theorem xX {i:Int}:∀{L:List Sp},(∀x∈L,x.2<=i)->iM i L=[]:=by
 intro L
 induction L with
 | nil=>intro _;rfl
 | cons x l ih =>
  intro h;rw[bq,if_pos (h x List.mem_cons_self)];exact ih (fun y hy=>h y (List.mem_cons_of_mem _ hy))
theorem sI {s:Sc}(h:s.Ok){m i:Int}:af i (s.all m)↔((s.una<=i/\i<s.next)/\¬af i s.sk)/\(Av s m i=true\/i<s.mark):=by
 rw[(eZ s m).2]
 have up:∀g∈s.gaps,g.1<=i->i<g.2->iM g.1 s.sk=iM i s.sk:=fun g hg h1 h2 =>
  uH h1 h.csk (fun j h3 h4=>((cV h).1 ⟨g,hg,h3,by omega⟩).2)
 constructor
 ·rintro⟨g,hg,h1,h2⟩;have hl:=dL s m (Int.le_of_lt (kA (bk s) hg));have h3:i<g.2:=by omega
  refine⟨(cV h).1 ⟨g,hg,h1,h3⟩,?_⟩;by_cases hc:aD (iM g.1 s.sk)/3<m/\(iM g.1 s.sk).length<3
  ·unfold Sc.lostOf at h2;rw[if_pos hc]at h2;dsimp only at h2;exact .inr (by omega)
  refine .inl ?_;unfold Av;rw[<-up g hg h1 h3];exact decide_eq_true hc
 rintro⟨h1,h2⟩;obtain⟨g,hg,h3,h4⟩:=(cV h).2 h1;refine⟨g,hg,h3,?_⟩;unfold Sc.lostOf;split
 ·rename_i hc
  rcases h2 with h2 | h2
  ·unfold Av at h2;rw[<-up g hg h3 h4]at h2;exact absurd hc (of_decide_eq_true h2)
  dsimp only;omega
 exact h4
theorem uI {s:Sc}(h:s.Ok){m:Int}(hm:1<=m)(t:Int):(s.sent t).lost m=s.lost m/\s.pipe m<=(s.sent t).pipe m:=by
 unfold Sc.sent;split
 ·rename_i hb;have hs:({ s with next:=t }:Sc).Ok:=by have:=h.sent t;unfold Sc.sent at this;rw[if_pos hb]at this;exact this
  unfold Sc.sentB at hb;rw[decide_eq_true_iff]at hb;have hm0:=h.mn
  have key:∀i,af i (({ s with next:=t }:Sc).all m)↔af i (s.all m):=fun i=>by
   rw[sI hs,sI h];show((s.una<=i/\i<t)/\¬af i s.sk)/\(Av s m i=true\/i<s.mark)↔_
   constructor
   ·rintro⟨⟨h1,h2⟩,h3⟩;by_cases hi:i<s.next
    ·exact⟨⟨⟨h1.1,hi⟩,h2⟩,h3⟩
    exfalso
    rcases h3 with h3 | h3
    ·unfold Av at h3;rw[xX (fun x hx=>by have:=sg h hx;omega)]at h3;refine of_decide_eq_true h3 ⟨?_,by decide⟩;show(0:Int)/3<m;omega
    omega
   rintro⟨⟨h1,h2⟩,h3⟩;exact⟨⟨⟨h1.1,by omega⟩,h2⟩,h3⟩
  have ea:({ s with next:=t }:Sc).all m=s.all m:=fJ (eZ _ m).1 (eZ s m).1 key;refine⟨by rw[kp hm,kp hm,ea],?_⟩;rw[gD _ hm,gD _ hm,ea];obtain⟨a1,a2,a3,a4,a5,a6⟩:=lL h m hm;obtain⟨b1,b2,b3,b4,b5,b6⟩:=lL hs m hm;have b6:t-s.una=aD s.sk+aD ({ s with next:=t }:Sc).gaps:=b6;show aD s.ag+(aD s.gaps-aD (s.all m))<=aD s.ag+(aD ({ s with next:=t }:Sc).gaps-aD (s.all m));omega
 exact⟨rfl,Int.le_refl _⟩
theorem fZ.out {c:Cn}(h:fZ c)(ok:c.Ok)(now n:Int):fZ (c.out now n):=by
 have hm:=ok.mss;obtain⟨e1,e2⟩:=uI ok.sc (m:=c.mss) (by omega) (c.freshTo n);have em:(c.out now n).mss=c.mss:=by unfold Cn.out Cn.freshC Cn.pieceC Cn.ackC;rfl
 have ec:(c.out now n).cg=c.cg:=by unfold Cn.out Cn.freshC Cn.pieceC Cn.ackC;rfl
 have es:(c.out now n).sc=c.sc.sent (c.freshTo n):=rfl;unfold fZ at h|-;rw[em,ec,es,e1];exact fun hh=>h ⟨by omega,hh.2⟩
theorem uJ:∀(k:Nat) {c:Cn} (l:List Sg),c.Ok->gf c<k->fZ (lostL k c l).1:=by
 intro k
 induction k with
 | zero=>intro c l _ h;omega
 | succ k ih =>
  intro c l ok hk;by_cases hp:c.sc.pipe c.mss<c.cg.win
  ·cases hl:c.sc.lost c.mss with
   | nil =>
    have hd:fZ c:=fun hh=>hh.2 hl;rw[gV hd];exact hd
   | cons x t =>
    rw[lk ok hp hl];obtain⟨-,f2,f3,-⟩:=oC ok hl;exact ih _ f3 (by omega)
  have hd:fZ c:=fun hh=>hp hh.1;rw[gV hd];exact hd
theorem uK {now:Int}(hn:aG now):∀(k:Nat) {c:Cn} (l:List Sg),c.Ok->fZ c->c.unsent.toNat<k->fZ (sizeL now k c l).1/\(sizeL now k c l).1.allowed<=0:=by
 intro k
 induction k with
 | zero=>intro c l _ _ h;omega
 | succ k ih =>
  intro c l ok hd hk;unfold sizeL;by_cases ha:0<c.allowed
  ·rw[if_pos ha];have:=(ll ok (now:=now) (v:=c.allowed) (.inl ⟨ha,rfl⟩)).2.2 ha;exact ih _ (ok.out hn _) (hd.out ok now _) (by omega)
  rw[if_neg ha];exact⟨hd,by show c.allowed<=0;omega⟩
theorem oN {c:Cn}(h:c.unsent<=0):c.allowed<=0:=by
 unfold Cn.allowed;rw[if_pos (by omega)];exact Int.le_refl 0
def zY (c:Cn):Prop:=fZ c/\c.allowed<=0/\¬(c.shut=true/\c.next=c.last)
def jy (c:Cn):Prop:=aq c.st=true->zY c
theorem uL {c:Cn}(ok:c.Ok){now:Int}(hn:aG now):zY (c.pushD now).1:=by
 unfold Cn.pushD;dsimp only;have h1:=uJ (c.flight.toNat+1) [] ok (jg ok);have k1:=Cn.Ok.lostL (c.flight.toNat+1) ok [];generalize lostL (c.flight.toNat+1) c []=r at h1 k1|-;have h2:=uK hn (r.1.unsent.toNat+1) r.2 k1 h1 (by omega);have k2:=Cn.Ok.sizeL hn (r.1.unsent.toNat+1) k1 r.2;generalize sizeL now (r.1.unsent.toNat+1) r.1 r.2=q at h2 k2|-;unfold finL;split
 ·rename_i hx;have hu:=k2.una;have hb:=k2.b1;have hft:q.1.freshTo 0=q.1.next+1:=by unfold Cn.freshTo;rw[if_pos ⟨hx.1,by omega⟩];omega
  have hlast:(q.1.out now 0).last=q.1.last:=by unfold Cn.out Cn.freshC Cn.pieceC Cn.ackC;rfl
  have hnx:(q.1.out now 0).next=q.1.freshTo 0:=by
   show(q.1.sc.sent (q.1.freshTo 0)).next=_;unfold Sc.sent Sc.sentB;have e:q.1.sc.next=q.1.next:=rfl;rw[if_pos (decide_eq_true ⟨by omega,by omega⟩)]
  refine⟨h2.1.out k2 now 0,oN ?_,fun hh=> ?_⟩
  ·have hun:(q.1.out now 0).unsent=max 0 ((q.1.out now 0).last-(q.1.out now 0).next):=rfl;have hx2:=hx.2;show(q.1.out now 0).unsent<=0;omega
  have h4:(q.1.out now 0).next=(q.1.out now 0).last:=hh.2;have hx2:=hx.2;omega
 rename_i hx;exact⟨h2.1,h2.2,hx⟩
theorem zY.ackC {c:Cn}(h:zY c)(b:Bool):zY (c.ackC b):=by unfold Cn.ackC;split <;> exact h
theorem zY.pushT {c:Cn}(h:zY c)(now:Int):zY (c.pushT now):=by
 unfold Cn.pushT;split
 ·exact h
 split <;> exact h
theorem bt {c:Cn}(ok:c.Ok){now:Int}(hn:aG now):jy (c.push now).1:=by
 intro hs;rw[cm]at hs;unfold Cn.push;have h0:c.st≠0:=by intro h;rw[h]at hs;cases hs
 rw[if_neg h0];dsimp only;rw[if_pos hs];have h:=uL ok hn;unfold Cn.pushA;split
 ·exact(h.ackC false).pushT now
 exact h.pushT now
theorem uM {c:Cn}(h:jy c)(h0:c.st≠0)(now:Int):c.push now=if c.pend=2 then((c.ackC false).pushT now,[c.ackS cy c.next])else(c.pushT now,[]):=by
 have e:(if aq c.st=true then c.pushD now else(c,[]))=(c,[]):=by
  split
  ·rename_i hs;obtain⟨h1,h2,h3⟩:=h hs;unfold Cn.pushD;dsimp only;rw[gV h1];dsimp only
   have e2:∀k l,sizeL now k c l=(c,l):=fun k l=>by
    cases k with
    | zero=>rfl
    | succ k=>unfold sizeL;rw[if_neg (by omega)]
   rw[e2];unfold finL;rw[if_neg h3]
  rfl
 unfold Cn.push;rw[if_neg h0];dsimp only;rw[e];unfold Cn.pushA;split <;> rfl
theorem jy.none {c:Cn}(h:aq c.st=false):jy c:=fun hs=>by rw[h]at hs;cases hs
theorem jy.closed {c:Cn}(h:c.st=0):jy c:=.none (by rw[h];rfl)
theorem sJ (c:Cn):c.synC.st=c.st:=by unfold Cn.synC;split <;> rfl
theorem kb {c:Cn}(h:jy c)(ok:c.Ok){now:Int}(hn:aG now){s:Sg}(hs:s.Ok):jy (c.receive now s).1:=by
 have ho:=au s.sq (ar c.irs 1);unfold Cn.receive;split
 ·exact h
 rename_i h0;split
 ·exact h
 split
 ·rename_i h1;unfold Cn.greet;split
  ·split <;> exact h
  split
  ·exact .closed (bf c now _ (.inl rfl))
  split
  ·exact h
  rename_i hy;have hy:s.syn=true:=by simpa using hy
  have hm:=(ok.meet hs hy).tries0;have hst:(c.meet s).st=1:=h1;dsimp only;split
  ·refine .none ?_;rw[sJ,Cn.step_st];show aq (match gq (c.meet s).st 2 with | none=>(c.meet s).st | some n=>n)=false;rw[hst];rfl
  exact bt (Cn.Ok.onDl (Cn.Ok.step ((hm.onSc (hm.sc.acked 1 [])).onTm (Tm.acked_fit hm.tm now 1)) hn (by show(0:Int)<=12;decide) 3) eI).ackNow hn
 rename_i h1;unfold Cn.recvOk;dsimp only;split
 ·exact .closed (bf c now _ (.inl rfl))
 split
 ·exact h
 split
 ·unfold Cn.stray;dsimp only;have hd:=au s.ak c.cf.iss
  have k1:Cn.Ok (if ap c.st=true/\s.has=true/\s.syn=false/\c.una<=aA s.ak c.cf.iss/\aA s.ak c.cf.iss<=c.next then c.acked now s (aA s.ak c.cf.iss)else c):=by
   split
   ·exact(ok.acked hn hs (by omega)).1
   exact ok
  generalize (if ap c.st=true/\s.has=true/\s.syn=false/\c.una<=aA s.ak c.cf.iss/\aA s.ak c.cf.iss<=c.next then c.acked now s (aA s.ak c.cf.iss)else c)=a at k1|-
  have k2:Cn.Ok (if a.st=9/\s.fin=true then { a with per:=.aft now 60 }else a):=by
   split
   ·exact { k1 with per:=Al.aft_ok hn (by decide) (by decide) }
   exact k1
  generalize (if a.st=9/\s.fin=true then { a with per:=.aft now 60 }else a)=b at k2|-;split
  ·exact bt k2.ackNow hn
  exact bt k2 hn
 split
 ·exact bt ok.ackNow hn
 split
 ·exact h
 have hd:=au s.ak c.cf.iss;have htr:=ok.tr2 h0;unfold Cn.process;dsimp only;split
 ·split
  ·exact h
  have k1:=ok.step hn htr 4;split
  ·exact bt ((k1.step hn (by rw[Cn.step_tries];exact htr) 5).tail hn hs ho hd.2) hn
  exact bt (k1.tail hn hs ho hd.2) hn
 split
 ·exact bt ok.ackNow hn
 exact bt (ok.tail hn hs ho hd.2) hn
theorem qI {c:Cn}(ok:c.Ok){now:Int}(hn:aG now)(h:jy c):jy (c.tick now).1:=by
 unfold Cn.tick;split
 ·exact h
 rename_i h0;have htr:=ok.tr2 h0
 have key:∀{d:Cn} (l:List Sg),d.Ok->jy (d.tickEnd now l).1:=fun l k=>by
  unfold Cn.tickEnd;dsimp only;split
  ·exact bt k.ackNow hn
  exact bt k hn
 split
 ·exact .closed (bf c now _ (.inr rfl))
 split
 ·dsimp only;split
  ·exact .closed (bf _ now _ (.inr rfl))
  rename_i ht;split
  ·exact key _ (Cn.Ok.expire (ok.back hn ht))
  rename_i hs;refine .none ?_;rw[sJ];have hs:ap c.st=false:=by simpa using hs
  show aq c.st=false;unfold ap at hs;unfold aq;have:=of_decide_eq_false hs;exact decide_eq_false (by omega)
 exact key _ ok
theorem xY {c:Cn}(h:jy c)(ok:c.Ok){now:Int}(hn:aG now)(x:List UInt8)(hb:c.last+x.length<=1073741824):jy (c.send now x).1:=by
 unfold Cn.send;split
 ·exact h
 refine bt ?_ hn;have hl:=ok.hlen;refine { ok with b1:= ?_ };unfold Cn.last at hb|-;dsimp only;rw[List.length_append,List.length_take];omega
theorem qJ {c:Cn}(h:jy c)(ok:c.Ok){now:Int}(hn:aG now)(n:Int):jy (c.recv now n).1:=by
 unfold Cn.recv;dsimp only;split
 ·exact h
 split
 ·exact h
 split
 ·exact h
 exact bt (ok.take n).ackNow hn
theorem uN {c:Cn}(h:jy c)(ok:c.Ok){now:Int}(hn:aG now):jy (c.close now).1:=by
 unfold Cn.close;split
 ·exact h
 rename_i hx;have htr:=ok.tr2 (fun h0=>hx (.inl h0));have k:Cn.Ok { c with shut:=true }:={ ok with };dsimp only;split
 ·rename_i h1;refine .closed ?_;show(Cn.step { c with shut:=true } now 5).st=0;rw[Cn.step_st];dsimp only;rw[h1];rfl
 split
 ·exact bt k hn
 exact bt (k.step hn htr 5) hn
end Go.Proofs.YtclkcmidhhfdmaaGreatDoor
