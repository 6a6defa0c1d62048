import Derived.Test.YtclkcmidhhfdmaaGreatDoorUb6
import Derived.Test.YtclkcmidhhfdmaaGreatDoorUb8
namespace Go.Proofs.YtclkcmidhhfdmaaGreatDoor
section
theorem oe {s e n:Int}(h:jC s e=some n):0<=n/\n<=9:=by
 unfold jC at h
 (repeat' split at h) <;> first | (cases h;done) | (injection h with h;subst h;decide)
theorem x9:(0:Int)<=0/\(0:Int)<=2:=by decide
theorem xy:(0:Int)<=1/\(1:Int)<=2:=by decide
theorem xq:(0:Int)<=2/\(2:Int)<=2:=by decide
def Al.Ok (a:Al):Prop:=aI a.since/\0<=a.ticks/\a.ticks<=1000
theorem eE:ex.Ok:=⟨⟨by decide,by decide⟩,by decide,by decide⟩
theorem Al.aft_ok {now t:Int}(h:aI now)(h1:0<=t)(h2:t<=1000):(Al.aft now t).Ok:=⟨h,h1,h2⟩
structure Cn.Ok (c:Cn):Prop where
 sc:c.sc.Ok
 bx:c.bx.Ok
 hasN:∀i,c.bx.has i->i<2147487744
 tm:c.tm.Fit
 cg:c.cg.Ok
 b0:0<=c.base
 b1:c.last<=1073741824
 lim:0<=c.limit/\c.limit<=1099511627776
 lar:0<=c.largest/\c.largest<=65535
 mss:28<=c.mss/\c.mss<=1000
 mark:0<=c.mark/\c.mark<=1099511627776
 ann:0<=c.ann/\c.ann<=2199023255552
 room:1<=c.room/\c.room<=8192
 fend: -1099511627776<=c.fend/\c.fend<=1099511627776
 cf:c.cf.okB=true
 st:0<=c.st/\c.st<=9
 pend:0<=c.pend/\c.pend<=2
 ackT:c.ackT.Ok
 dl:c.dl.Ok
 per:c.per.Ok
 tr:0<=c.tries/\c.tries<=13
 tr2:c.st≠0->c.tries<=12
 ring:(c.bx.ring.length:Int)=c.room
 anm:c.ann<=c.most
namespace Cn.Ok
variable {c : Cn}
theorem hlen (h:c.Ok):(c.held.length:Int)<=1073741824:=by have:=h.b0;have:=h.b1;unfold Cn.last at this;omega
theorem base1 (h:c.Ok):c.base<=1073741824:=by have:=h.b0;have:=h.b1;unfold Cn.last at this;omega
theorem nxN (h:c.Ok):c.bx.nx<=2147487744:=by
 by_cases hz:c.bx.nx<=0
 ·omega
 have:=h.hasN (c.bx.nx-1) (.inl (by omega));omega
theorem rdN (h:c.Ok):c.bx.rd<=2147487744:=Int.le_trans h.bx.rdnx h.nxN
theorem most (h:c.Ok):0<=c.most/\c.most<=2147495936:=by
 have:=h.rdN;have:=h.bx.rd0;have:=h.bx.most;unfold Cn.most;omega
theorem una (h:c.Ok):0<=c.una/\c.una<=c.next/\c.next<=1099511627776:=⟨h.sc.u0,h.sc.un,h.sc.n40⟩
theorem expected (h:c.Ok):0<=c.expected/\c.expected<=2147487745:=by
 have:=h.nxN;have:=h.bx.rd0;have:=h.bx.rdnx;unfold Cn.expected;split <;> omega
theorem raised (h:c.Ok)(m:Int):0<=c.raised m/\c.raised m<=2199023255552/\c.bx.nx<=c.raised m/\c.raised m<=c.most:=by
 have:=h.nxN;have:=h.bx.rd0;have:=h.bx.rdnx;have:=h.most;have:=h.ann;have:=h.bx.nxend;have:=h.anm;have:c.bx.nx<=c.most:=by unfold Cn.most;omega
 unfold Cn.raised;split <;> omega
theorem cfr (h:c.Ok):(1<=c.cf.fp/\c.cf.fp<=65535)/\(1<=c.cf.tp/\c.cf.tp<=65535)/\(0<=c.cf.iss/\c.cf.iss<=4294967295)/\(28<=c.cf.mss/\c.cf.mss<=1000)/\(1<=c.cf.room/\c.cf.room<=8192)/\1<=c.cf.keep/\c.cf.keep<=8192:=by
 have:=h.cf;unfold Cf.okB at this;exact of_decide_eq_true this
theorem unsent (h:c.Ok):0<=c.unsent/\c.unsent<=1073741824:=by
 have:=h.una;have:=h.b1;unfold Cn.unsent;omega
theorem step (h:c.Ok){now:Int}(hn:aI now)(ht:c.tries<=12)(e:Int):(c.step now e).Ok:=by
 unfold Cn.step;split
 ·exact h
 rename_i n hx;have hb:0<=n/\n<=9:=oe hx;split
 ·rename_i h9;exact { h with per:=Al.aft_ok hn (by decide) (by decide),st:=hb,tr2:=fun _=>ht }
 exact { h with st:=hb,tr2:=fun _=>ht }
theorem finish (h:c.Ok){now:Int}(hn:aI now)(ht:c.tries<=12)(e er:Int):(c.finish now e er).Ok:=by
 have:=h.step hn ht e;exact { this with }
theorem ackNow (h:c.Ok):c.ackNow.Ok:={ h with pend:=xq }
theorem ackSoon (h:c.Ok){now:Int}(hn:aI now):(c.ackSoon now).Ok:=by
 unfold Cn.ackSoon;split
 ·exact { h with pend:=xq }
 exact { h with pend:=xy,ackT:=Al.aft_ok hn (by decide) (by decide) }
theorem ackC (h:c.Ok)(b:Bool):(c.ackC b).Ok:=by
 have:=h.raised c.mss;unfold Cn.ackC;split
 ·exact { h with pend:=x9 }
 exact { h with pend:=x9,ann:=⟨this.1,this.2.1⟩,anm:=this.2.2.2 }
theorem synC (h:c.Ok):c.synC.Ok:=by
 have hr:=h.room;have ha:0<=c.room/\c.room<=2199023255552:=by omega
 have hm:c.room<=c.most:=by have:=h.ring;have:=h.bx.rd0;unfold Cn.most;omega
 unfold Cn.synC;split
 ·exact { h with ann:=ha,anm:=hm }
 exact { h with pend:=x9,ann:=ha,anm:=hm }
theorem pieceC (h:c.Ok):c.pieceC.Ok:=h.ackC false
theorem onSc (h:c.Ok){s:Sc}(hs:s.Ok):Cn.Ok { c with sc:=s }:={ h with sc:=hs }
theorem onTm (h:c.Ok){s:Tm}(hs:s.Fit):Cn.Ok { c with tm:=s }:={ h with tm:=hs }
theorem onCg (h:c.Ok){s:Cg}(hs:s.Ok):Cn.Ok { c with cg:=s }:={ h with cg:=hs }
theorem onDl (h:c.Ok){s:Al}(hs:s.Ok):Cn.Ok { c with dl:=s }:={ h with dl:=hs }
theorem freshC (h:c.Ok)(n:Int):(c.freshC n).Ok:=h.pieceC.onSc (h.sc.sent _)
theorem out (h:c.Ok){now:Int}(hn:aI now)(n:Int):(c.out now n).Ok:=(h.freshC n).onTm (Tm.sent_fit h.tm now _ hn)
theorem lostL (n:Nat):∀{c:Cn} (_:c.Ok) (l:List Sg),(lostL n c l).1.Ok:=by
 induction n with
 | zero=>exact fun h l=>h
 | succ n ih =>
  intro c h l;unfold Go.Proofs.YtclkcmidhhfdmaaGreatDoor.lostL;split
  ·split
   ·exact h
   rename_i x _ _;split
   ·exact ih ((h.pieceC.onSc (h.sc.ret _)).onTm (Tm.retr_fit h.tm)) _
   exact h.pieceC.onSc (h.sc.ret _)
  exact h
theorem sizeL {now:Int}(hn:aI now)(n:Nat):∀{c:Cn} (_:c.Ok) (l:List Sg),(sizeL now n c l).1.Ok:=by
 induction n with
 | zero=>exact fun h l=>h
 | succ n ih =>
  intro c h l;unfold Go.Proofs.YtclkcmidhhfdmaaGreatDoor.sizeL;split
  ·exact ih (h.out hn _) _
  exact h
theorem finL {now:Int}(hn:aI now)(h:c.Ok)(l:List Sg):(finL now c l).1.Ok:=by
 unfold Go.Proofs.YtclkcmidhhfdmaaGreatDoor.finL;split
 ·exact h.out hn _
 exact h
theorem pushD {now:Int}(hn:aI now)(h:c.Ok):(c.pushD now).1.Ok:=by
 unfold Cn.pushD;exact finL hn (sizeL hn _ (lostL _ h _) _) _
theorem pushA (h:c.Ok)(l:List Sg):(c.pushA l).1.Ok:=by
 unfold Cn.pushA;split
 ·exact h.ackC false
 exact h
theorem value (_h:c.Ok):0<=c.tm.value/\c.tm.value<=1000:=by
 have h1:=c.tm.base_bd;have h2:(0:Int)<=c.tm.base*2 ^ c.tm.backs.toNat:=Int.mul_nonneg (by omega) (Int.pow_nonneg (by decide));unfold Tm.value;omega
theorem pushT (h:c.Ok){now:Int}(hn:aI now):(c.pushT now).Ok:=by
 unfold Cn.pushT;split
 ·exact h.onDl eE
 split
 ·exact h
 exact h.onDl (Al.aft_ok hn h.value.1 h.value.2)
theorem push (h:c.Ok){now:Int}(hn:aI now):(c.push now).1.Ok:=by
 unfold Cn.push;split
 ·exact h
 dsimp only;split
 ·exact((h.pushD hn).pushA _).pushT hn
 exact(h.pushA _).pushT hn
theorem announce (h:c.Ok){a w:Int}(ha:a<=1099511562240)(hw:0<=w/\w<=65535):(c.announce a w).Ok:=by
 have:=h.lim;have:=h.lar;unfold Cn.announce;exact { h with lim:=by dsimp only;omega,lar:=by dsimp only;omega }
theorem resize (h:c.Ok){m:Int}(hm:m=0\/28<=m):(c.resize m).Ok:=by
 have hx:=h.mss;have hb:28<=min c.mss (if m=0 then 28 else m)/\min c.mss (if m=0 then 28 else m)<=1000:=by split <;> omega
 unfold Cn.resize;exact { h with mss:=hb,cg:=ry hb.1 (by omega) }
theorem meet (h:c.Ok){s:Sg}(hs:s.Ok)(hy:s.syn=true):(c.meet s).Ok:=by
 unfold Cn.meet;refine resize (announce ({ h with }:Cn.Ok { c with irs:=s.sq,sacks:=s.sacks }) (by decide) hs.win) ?_;have:=hs.mssS hy;omega
theorem drop (h:c.Ok)(u:Int):(c.drop u).Ok:=by
 have h0:=h.b0;have h1:=h.b1;have hd:0<=eP c.held c.base u/\eP c.held c.base u<=c.held.length:=by unfold eP;omega
 unfold Cn.drop;refine { h with b0:=by dsimp only;omega,b1:= ?_ };unfold Cn.last at h1|-;dsimp only;rw[List.length_drop];omega
theorem report (h:c.Ok)(a:Int)(bl:List Sp):(c.report a bl).Ok:=h.onSc (h.sc.acked _ _)
theorem flight (h:c.Ok):0<=c.flight/\c.flight<=1099511627776:=by
 have:=h.una;unfold Cn.flight;unfold Cn.una Cn.next at this;omega
theorem tries0 (h:c.Ok):Cn.Ok { c with tries:=0 }:={ h with tr:=⟨Int.le_refl 0,(by decide:(0:Int)<=13)⟩,tr2:=fun _=>(by decide:(0:Int)<=12) }
theorem in64n (h:c.Ok):aI c.next:=by have:=h.una;unfold aI;omega
theorem acked (h:c.Ok){now:Int}(hn:aI now){s:Sg}(hs:s.Ok){ack:Int}(ha:ack<=1099511562240):(c.acked now s ack).Ok/\(c.acked now s ack).tries=0:=by
 unfold Cn.acked;split
 ·exact⟨h.tries0,rfl⟩
 dsimp only;have hr:=h.tries0.report ack s.bl
 have h1:Cn.Ok (if c.una<ack then(if 0<ack-max c.una 1 then({ ({ c with tries:=0 }:Cn).report ack s.bl with dl:=ex,tm:=(({ c with tries:=0 }:Cn).report ack s.bl).tm.acked now ack,cg:=(({ c with tries:=0 }:Cn).report ack s.bl).cg.acked (ack-max c.una 1) ack }:Cn)else { ({ c with tries:=0 }:Cn).report ack s.bl with dl:=ex,tm:=(({ c with tries:=0 }:Cn).report ack s.bl).tm.acked now ack }).drop ack else({ c with tries:=0 }:Cn).report ack s.bl)/\(if c.una<ack then(if 0<ack-max c.una 1 then({ ({ c with tries:=0 }:Cn).report ack s.bl with dl:=ex,tm:=(({ c with tries:=0 }:Cn).report ack s.bl).tm.acked now ack,cg:=(({ c with tries:=0 }:Cn).report ack s.bl).cg.acked (ack-max c.una 1) ack }:Cn)else { ({ c with tries:=0 }:Cn).report ack s.bl with dl:=ex,tm:=(({ c with tries:=0 }:Cn).report ack s.bl).tm.acked now ack }).drop ack else({ c with tries:=0 }:Cn).report ack s.bl).tries=0:=by
  have hd:=(hr.onDl eE).onTm (Tm.acked_fit hr.tm now ack);split
  ·split
   ·exact⟨(hd.onCg (Cg.acked_ok hr.cg _ _)).drop _,rfl⟩
   exact⟨hd.drop _,rfl⟩
  exact⟨hr,rfl⟩
 generalize (if c.una<ack then(if 0<ack-max c.una 1 then({ ({ c with tries:=0 }:Cn).report ack s.bl with dl:=ex,tm:=(({ c with tries:=0 }:Cn).report ack s.bl).tm.acked now ack,cg:=(({ c with tries:=0 }:Cn).report ack s.bl).cg.acked (ack-max c.una 1) ack }:Cn)else { ({ c with tries:=0 }:Cn).report ack s.bl with dl:=ex,tm:=(({ c with tries:=0 }:Cn).report ack s.bl).tm.acked now ack }).drop ack else({ c with tries:=0 }:Cn).report ack s.bl)=a at h1|-;obtain⟨h1,ht1⟩:=h1;have h2:=h1.announce ha hs.win;have ht2:(a.announce ack s.win).tries=0:=ht1;generalize a.announce ack s.win=b at h2 ht2|-
 have h3:Cn.Ok (if 0<c.repN ack s.bl/\b.mark<=ack/\b.sc.lost b.mss≠[]then { b with cg:=b.cg.lost c.flight b.next }else b)/\(if 0<c.repN ack s.bl/\b.mark<=ack/\b.sc.lost b.mss≠[]then { b with cg:=b.cg.lost c.flight b.next }else b).tries=0:=by
  split
  ·exact⟨h2.onCg (Cg.lost_ok h2.cg _ h2.in64n),ht2⟩
  exact⟨h2,ht2⟩
 generalize (if 0<c.repN ack s.bl/\b.mark<=ack/\b.sc.lost b.mss≠[]then { b with cg:=b.cg.lost c.flight b.next }else b)=d at h3|-;obtain⟨h3,aF⟩:=h3;split
 ·refine⟨h3.step hn (by omega) _,?_⟩;unfold Cn.step;split
  ·exact aF
  split <;> exact aF
 exact⟨h3,aF⟩
theorem insert (h:c.Ok){off:Int}{s:List UInt8}(ho:off<=2147483647)(hs:s.length<=1024):(c.insert off s).Ok:=by
 have hl:(mo c.ended c.fend off s).length<=1024:=by
  unfold mo;rw[List.length_drop];split
  ·rw[List.length_take];omega
  omega
 have hb:(c.insBx off s).Ok/\(∀i,(c.insBx off s).has i->i<2147487744)/\(c.insBx off s).rd=c.bx.rd/\(c.insBx off s).ring.length=c.bx.ring.length:=by
  unfold Cn.insBx;split
  ·exact⟨h.bx,h.hasN,rfl,rfl⟩
  obtain⟨p1,p3,p4,-,p2⟩:=Bx.put_spec h.bx (mo c.ended c.fend off s) (off:=max off 0) (by omega) (by omega);refine⟨p1,fun i hi=> ?_,p3,p4⟩
  rcases(p2 i).1 hi with hi | hi
  ·exact h.hasN i hi
  omega
 have hm:(c.insert off s).most=c.most:=by unfold Cn.most Cn.insert;dsimp only;rw[hb.2.2.1,hb.2.2.2]
 exact { h with bx:=hb.1,hasN:=hb.2.1,ring:=by unfold Cn.insert;dsimp only;rw[hb.2.2.2];exact h.ring,anm:=by rw[hm];exact h.anm }
theorem store (h:c.Ok){now:Int}(hn:aI now){s:Sg}(hs:s.Ok){off:Int}(ho:off<=2147483647):(c.store now s off).Ok:=by
 have hl:s.s.length<=1024:=by have:=hs.slen;omega
 unfold Cn.store;split
 ·exact h
 split
 ·split
  ·exact(h.insert ho hl).ackSoon hn
  exact(h.insert ho hl).ackNow
 exact h.ackNow
theorem finS (h:c.Ok){now:Int}(hn:aI now){s:Sg}(hs:s.Ok){off:Int}(ho: -2147483648<=off/\off<=2147483647)(ht:c.tries<=12):(c.finS now s off).Ok:=by
 have hl:s.s.length<=1024:=by have:=hs.slen;omega
 unfold Cn.finS;dsimp only
 have h1:Cn.Ok (if s.fin=true/\ao c.st=true/\c.ended=false/\c.bx.nx<=off+s.s.length then { c with ended:=true,fend:=off+s.s.length }else c)/\(if s.fin=true/\ao c.st=true/\c.ended=false/\c.bx.nx<=off+s.s.length then { c with ended:=true,fend:=off+s.s.length }else c).tries<=12:=by
  split
  ·exact⟨{ h with fend:=by dsimp only;omega },ht⟩
  exact⟨h,ht⟩
 generalize (if s.fin=true/\ao c.st=true/\c.ended=false/\c.bx.nx<=off+s.s.length then { c with ended:=true,fend:=off+s.s.length }else c)=d at h1|-;obtain⟨h1,ht1⟩:=h1;split
 ·exact(step ({ h1 with }:Cn.Ok { d with over:=true }) hn ht1 6).ackNow
 exact h1
end Cn.Ok
end
section
theorem bH (a b:Int): -2147483648<=aD a b/\aD a b<=2147483647:=by unfold aD;omega
theorem eF (a n:Int):0<=bt a n/\bt a n<=4294967295:=by unfold bt;omega
theorem Cn.store_tries (c:Cn)(now:Int)(s:Sg)(off:Int):(c.store now s off).tries=c.tries:=by
 unfold Cn.store;split
 ·rfl
 split
 ·split
  ·unfold Cn.ackSoon;split <;> rfl
  rfl
 rfl
theorem Cn.step_tries (c:Cn)(now e:Int):(c.step now e).tries=c.tries:=by
 unfold Cn.step;split
 ·rfl
 split <;> rfl
theorem qd {s:Sg}(hs:s.Ok):0<=bh s/\bh s<=1025:=by
 have h1:=hs.slen;have h2:=hs.fl;have h3:=hs.sS;unfold bh;by_cases hy:s.syn=true
 ·rw[h3 (.inl hy)]at *;have:¬s.fin=true:=fun hf=>h2.1 ⟨hy,hf⟩;rw[if_pos hy,if_neg this]
  simp
 rw[if_neg hy];split <;> omega
namespace Cn.Ok
variable {c : Cn}
theorem tail (h:c.Ok){now:Int}(hn:aI now){s:Sg}(hs:s.Ok){off ack:Int}(ho: -2147483648<=off/\off<=2147483647)(ha:ack<=2147483647) :
  (((c.acked now s ack).store now s off).finS now s off).Ok:=by
 obtain⟨h1,h2⟩:=h.acked hn hs (ack:=ack) (by omega);exact(h1.store hn hs ho.2).finS hn hs ho (by rw[Cn.store_tries,h2];decide)
theorem process (h:c.Ok){now:Int}(hn:aI now){s:Sg}(hs:s.Ok){off:Int}(ho: -2147483648<=off/\off<=2147483647):(c.process now s off).1.Ok:=by
 have hd:=bH s.ak c.cf.iss;unfold Cn.process;dsimp only;split
 ·rename_i h2;have ht:=h.tr2 (by omega);split
  ·exact h
  have h3:=h.step hn ht 4;split
  ·exact((h3.step hn (by rw[Cn.step_tries];exact ht) 5).tail hn hs ho hd.2).push hn
  exact(h3.tail hn hs ho hd.2).push hn
 split
 ·exact h.ackNow.push hn
 exact(h.tail hn hs ho hd.2).push hn
theorem stray (h:c.Ok){now:Int}(hn:aI now){s:Sg}(hs:s.Ok):(c.stray now s).1.Ok:=by
 have hd:=bH s.ak c.cf.iss;unfold Cn.stray;dsimp only
 have h1:Cn.Ok (if cA c.st=true/\s.has=true/\s.syn=false/\c.una<=aD s.ak c.cf.iss/\aD s.ak c.cf.iss<=c.next then c.acked now s (aD s.ak c.cf.iss)else c):=by
  split
  ·exact(h.acked hn hs (by omega)).1
  exact h
 generalize (if cA c.st=true/\s.has=true/\s.syn=false/\c.una<=aD s.ak c.cf.iss/\aD s.ak c.cf.iss<=c.next then c.acked now s (aD s.ak c.cf.iss)else c)=a at h1|-
 have h2:Cn.Ok (if a.st=9/\s.fin=true then { a with per:=.aft now 60 }else a):=by
  split
  ·exact { h1 with per:=Al.aft_ok hn (by decide) (by decide) }
  exact h1
 generalize (if a.st=9/\s.fin=true then { a with per:=.aft now 60 }else a)=b at h2|-;split
 ·exact h2.ackNow.push hn
 exact h2.push hn
theorem greet (h:c.Ok){now:Int}(hn:aI now){s:Sg}(hs:s.Ok)(h0:c.st≠0):(c.greet now s).1.Ok:=by
 unfold Cn.greet;split
 ·split <;> exact h
 split
 ·exact h.finish hn (h.tr2 h0) _ _
 split
 ·exact h
 rename_i hy;have hy:s.syn=true:=by simpa using hy
 have hm:=(h.meet hs hy).tries0;dsimp only;split
 ·exact(hm.step hn (by show(0:Int)<=12;decide) 2).synC
 exact(onDl (step ((hm.onSc (hm.sc.acked 1 [])).onTm (Tm.acked_fit hm.tm now 1)) hn (by show(0:Int)<=12;decide) 3) eE).ackNow.push hn
theorem recvOk (h:c.Ok){now:Int}(hn:aI now){s:Sg}(hs:s.Ok)(h0:c.st≠0):(c.recvOk now s).1.Ok:=by
 have ho:=bH s.sq (bt c.irs 1);unfold Cn.recvOk;dsimp only;split
 ·exact h.finish hn (h.tr2 h0) _ _
 split
 ·exact h
 split
 ·exact h.stray hn hs
 split
 ·exact h.ackNow.push hn
 split
 ·exact h
 exact h.process hn hs ho
theorem receive (h:c.Ok){now:Int}(hn:aI now){s:Sg}(hs:s.Ok):(c.receive now s).1.Ok:=by
 unfold Cn.receive;split
 ·exact h
 rename_i h0;split
 ·exact h
 split
 ·exact h.greet hn hs h0
 exact h.recvOk hn hs h0
theorem expire (h:c.Ok):c.expire.1.Ok:=by
 have hu:=h.una;unfold Cn.expire;split
 ·exact { h with cg:=Cg.timeout_ok h.cg _,sc:=h.sc.timeout,mark:=by dsimp only;omega }
 split
 ·exact h
 exact h.freshC _
theorem tickEnd (h:c.Ok){now:Int}(hn:aI now)(l:List Sg):(c.tickEnd now l).1.Ok:=by
 unfold Cn.tickEnd;dsimp only;split
 ·exact h.ackNow.push hn
 exact h.push hn
theorem tick (h:c.Ok){now:Int}(hn:aI now):(c.tick now).1.Ok:=by
 unfold Cn.tick;split
 ·exact h
 rename_i h0;have ht:=h.tr2 h0;split
 ·exact h.finish hn ht _ _
 split
 ·dsimp only;split
  ·rename_i hx
   have h1:(Cn.step { c with tries:=c.tries+1 } now 9).st=0:=by
    unfold Cn.step;have:jC c.st 9=some 0:=by unfold jC;rw[if_neg h0,if_pos (.inr rfl)]
    dsimp only;rw[this];rfl
   have h2:∀d:Cn,d.Ok->d.st=0->d.tries=c.tries->Cn.Ok { d with tries:=c.tries+1,err:=182 }:=fun d hd hs ht'=>{ hd with tr:=by have:=hd.tr;dsimp only;omega,tr2:=fun h=>(h hs).elim }
   have h3:Cn.finish { c with tries:=c.tries+1 } now 9 182={ c.step now 9 with tries:=c.tries+1,err:=182 }:=by
    unfold Cn.finish Cn.step;dsimp only
    cases jC c.st 9 with
    | none=>rfl
    | some n=>dsimp only;split <;> rfl
   rw[h3];refine h2 _ (h.step hn ht 9) ?_ (Cn.step_tries _ _ _);have:jC c.st 9=some 0:=by unfold jC;rw[if_neg h0,if_pos (.inr rfl)]
   unfold Cn.step;rw[this];rfl
  rename_i hx;have hb:=h.tm.1
  have hv:0<=c.tm.retr.backoff.value/\c.tm.retr.backoff.value<=1000:=by
   have h1:=c.tm.retr.backoff.base_bd;have h2:(0:Int)<=c.tm.retr.backoff.base*2 ^ c.tm.retr.backoff.backs.toNat:=Int.mul_nonneg (by omega) (Int.pow_nonneg (by decide));unfold Tm.value;omega
  have he:Cn.Ok { c with tries:=c.tries+1,tm:=c.tm.retr.backoff,dl:=.aft now c.tm.retr.backoff.value } :=
   { h with tr:=by have:=h.tr;dsimp only;omega,tr2:=fun _=>by dsimp only;omega,tm:=Tm.backoff_fit (Tm.retr_fit h.tm),dl:=Al.aft_ok hn hv.1 hv.2 }
  split
  ·exact he.expire.tickEnd hn _
  exact he.synC
 exact h.tickEnd hn _
theorem send (h:c.Ok){now:Int}(hn:aI now)(s:List UInt8)(hb:c.last+s.length<=1073741824):(c.send now s).1.Ok:=by
 unfold Cn.send;split
 ·exact h
 refine push (c:={ c with held:=c.held++s.take (c.sendN s).toNat }) { h with b1:= ?_ } hn;unfold Cn.last at hb|-;dsimp only;rw[List.length_append,List.length_take];omega
theorem take (h:c.Ok)(n:Int):Cn.Ok { c with bx:=c.bx.take n }:=by
 obtain⟨t1,t2,t3,t4⟩:=c.bx.take_has n
 have h1:(c.bx.take n).rd<=2147487744/\c.bx.rd<=(c.bx.take n).rd:=by
  have:=h.nxN;have:=h.bx.rdnx;unfold Bx.take;split
  ·omega
  dsimp only;omega
 have:=h.bx.most;exact { h with bx:=Bx.Ok.take h.bx n (by omega),hasN:=fun i hi=>h.hasN i ((t4 i).1 hi),ring:=by dsimp only;rw[t3];exact h.ring,anm:=by have:=h.anm;unfold Cn.most at this|-;dsimp only;rw[t3];omega }
theorem recv (h:c.Ok){now:Int}(hn:aI now)(n:Int):(c.recv now n).1.Ok:=by
 unfold Cn.recv;split
 ·exact h
 dsimp only;split
 ·exact h.take n
 split
 ·exact h.take n
 exact(h.take n).ackNow.push hn
theorem close (h:c.Ok){now:Int}(hn:aI now):(c.close now).1.Ok:=by
 have hs:Cn.Ok { c with shut:=true }:={ h with };unfold Cn.close;split
 ·exact h
 rename_i hx;have h0:c.st≠0:=fun e=>hx (.inl e);dsimp only;split
 ·exact hs.finish hn (h.tr2 h0) _ _
 split
 ·exact hs.push hn
 exact(hs.step hn (h.tr2 h0) _).push hn
end Cn.Ok
theorem fB {now:Int}(hn:aI now){c:Cf}(hc:c.okB=true):(cx now c).Ok:=by
 have hr:=hc;unfold Cf.okB at hr;obtain⟨h1,h2,h3,h4,h5,h6⟩:=of_decide_eq_true hr
 exact {
  sc:=wH.sent 1,bx:=sQ _ (by omega) (by omega),hasN:=fun i hi=>by
   rcases hi with hi | hi
   ·exact absurd hi.2 (by show ¬i<0;omega)
   ·exact(aY hi).elim,
  tm:=Tm.sent_fit ux now 1 hn,cg:=ry h4.1 (by omega),b0:=(by decide:(0:Int)<=1),b1:=(by decide:(1:Int)+(([]:List UInt8).length:Int)<=1073741824),lim:=(by decide:(0:Int)<=0/\(0:Int)<=1099511627776),lar:=(by decide:(0:Int)<=0/\(0:Int)<=65535),mss:=h4,mark:=(by decide:(0:Int)<=0/\(0:Int)<=1099511627776),ann:=by show 0<=c.room/\c.room<=2199023255552;omega,room:=h5,fend:=(by decide:(-1099511627776:Int)<=0/\(0:Int)<=1099511627776),cf:=hc,st:=(by decide:(0:Int)<=0/\(0:Int)<=9),pend:=x9,ackT:=eE,dl:=Al.aft_ok hn (by decide) (by decide),per:=eE,tr:=(by decide:(0:Int)<=0/\(0:Int)<=13),tr2:=fun _=>(by decide:(0:Int)<=12),ring:=by show((List.replicate c.room.toNat (0:UInt8)).length:Int)=c.room;rw[List.length_replicate];omega,anm:=by show c.room<=(0:Int)+(List.replicate c.room.toNat (0:UInt8)).length;rw[List.length_replicate];omega }
end
section
structure Body (g:Sg):Prop where
 rst:g.rst=false
 bl:g.bl=[]
 win:g.win=0
 fl:g.syn=false\/g.fin=false
 mss:g.syn=false->g.mss=0/\g.sacks=false
 mssS:g.syn=true->g.mss=0\/(28<=g.mss/\g.mss<=1024)
 sS:g.syn=true->g.s=[]
 slen:g.s.length<=1000
theorem xK:Body dg:=⟨rfl,rfl,rfl,.inl rfl,fun _=>⟨rfl,rfl⟩,(fun h=>nomatch h),fun _=>rfl,by decide⟩
theorem oh {e:Int}{bl:List Sp}(h:aH e bl=true){x:Sp}(hx:x∈bl):x.1<x.2:=by
 induction bl generalizing e with
 | nil=>cases hx
 | cons y t ih =>
  rw[aA]at h
  rcases List.mem_cons.1 hx with rfl | hx
  ·exact h.1.2.2.1
  exact ih h.2 hx
theorem se {b:Bx}(ok:b.Ok){x:Sp}(hx:x∈b.rep):b.nx<x.1/\x.1<x.2/\x.2<=b.rd+b.ring.length:=by
 have hb:=Bx.rep_mem hx;have hv:=oh ok.canon hb;have m1:=ok.mem x.1 ⟨x,hb,by omega⟩;have m2:=ok.mem (x.2-1) ⟨x,hb,by omega⟩;omega
namespace Cn.Ok
variable {c : Cn}
theorem addressS (h:c.Ok){g:Sg}(hb:Body g)(off:Int)(ha:g.ak=0):(c.address g off).Ok:=by
 have hc:=h.cfr;have hr:=h.room;have hf:=hb.fl;have hrs:=hb.rst
 have hw:0<=(if g.syn=true then c.room else g.win)/\(if g.syn=true then c.room else g.win)<=65535:=by
  have:=hb.win;split <;> omega
 have hbl:(c.address g off).bl=[]:=hb.bl;refine { fp:=hc.1,tp:=hc.2.1,sq:=eF _ _,ak:=by show 0<=g.ak/\g.ak<=4294967295;omega,has:=fun _=>ha,win:=hw,fl:= ?_,mss:=hb.mss,mssS:=hb.mssS,blen:=by rw[hbl];decide,bhas:=by rw[hbl];intro h;exact absurd h (by decide),blk:=by(rw[hbl];intro x hx;exact(nomatch hx)),sS:= ?_,slen:= ?_ }
 ·show ¬(g.syn=true/\g.fin=true)/\¬(g.syn=true/\g.rst=true)/\¬(g.fin=true/\g.rst=true);rw[hrs];refine⟨?_,by simp,by simp⟩
  rcases hf with hf | hf <;> rw[hf] <;> simp
 ·show g.syn=true\/g.rst=true->g.s=[];rintro (h | h)
  ·exact hb.sS h
  rw[hrs]at h;cases h
 rw[hbl];have:=hb.slen;show(g.s.length:Int)<=1024-8*(0:Nat);omega
theorem ackS_ok (h:c.Ok){g:Sg}(hb:Body g)(off:Int):(c.ackS g off).Ok:=by
 have hc:=h.cfr;have hr:=h.room;have hf:=hb.fl;have hrs:=hb.rst;have a0:=h.raised c.mss;have hbl:=hb.bl;have hrg:=h.ring;have a1:=h.bx.rd0;have a2:=h.bx.rdnx;unfold Cn.ackS;split
 ·rename_i hy;refine { fp:=hc.1,tp:=hc.2.1,sq:=eF _ _,ak:=eF _ _,has:=(fun h=>nomatch h),win:= ?_,fl:= ?_,mss:=hb.mss,mssS:=hb.mssS,blen:= ?_,bhas:=fun _=>rfl,blk:= ?_,sS:= ?_,slen:= ?_ }
  ·show 0<=(if g.syn=true then c.room else g.win)/\(if g.syn=true then c.room else g.win)<=65535;rw[if_pos hy];omega
  ·show ¬(g.syn=true/\g.fin=true)/\¬(g.syn=true/\g.rst=true)/\¬(g.fin=true/\g.rst=true);rw[hrs];refine⟨?_,by simp,by simp⟩
   rcases hf with hf | hf <;> rw[hf] <;> simp
  ·show g.bl.length<=3;rw[hbl];decide
  ·show ∀x∈g.bl,_;rw[hbl];intro x hx;exact(nomatch hx)
  ·show g.syn=true\/g.rst=true->g.s=[];exact fun _=>hb.sS hy
  show(g.s.length:Int)<=1024-8*g.bl.length;rw[hbl,hb.sS hy]
  decide
 rename_i hy
 have hB:∀x∈(if g.s=[]/\c.sacks=true then g.bl++c.bx.rep.map (fun b=>(c.number b.1,c.number b.2))else g.bl),(0<=x.1/\x.1<=4294967295)/\(0<=x.2/\x.2<=4294967295)/\x.1≠x.2:=by
  rw[hbl];split
  ·intro x hx;rw[List.nil_append]at hx;obtain⟨y,hy,rfl⟩:=List.mem_map.1 hx;have:=se h.bx hy;refine⟨eF _ _,eF _ _,?_⟩;show bt c.irs (y.1+1)≠bt c.irs (y.2+1);unfold bt;omega
  intro x hx;exact(nomatch hx)
 have hL:(if g.s=[]/\c.sacks=true then g.bl++c.bx.rep.map (fun b=>(c.number b.1,c.number b.2))else g.bl).length<=3/\(g.s.length:Int)<=1024-8*(if g.s=[]/\c.sacks=true then g.bl++c.bx.rep.map (fun b=>(c.number b.1,c.number b.2))else g.bl).length:=by
  have:=hb.slen;rw[hbl];split
  ·rename_i hx;rw[List.nil_append,List.length_map,Bx.rep_length,hx.1];simp only[List.length_nil];omega
  simp only[List.length_nil];omega
 refine { fp:=hc.1,tp:=hc.2.1,sq:=eF _ _,ak:=eF _ _,has:=(fun h=>nomatch h),win:= ?_,fl:= ?_,mss:=hb.mss,mssS:=hb.mssS,blen:=hL.1,bhas:=fun _=>rfl,blk:=hB,sS:= ?_,slen:=hL.2 }
 ·show 0<=c.raised c.mss-c.bx.nx/\c.raised c.mss-c.bx.nx<=65535;have:=a0.2.2;unfold Cn.most at this;omega
 ·show ¬(g.syn=true/\g.fin=true)/\¬(g.syn=true/\g.rst=true)/\¬(g.fin=true/\g.rst=true);rw[hrs];refine⟨?_,by simp,by simp⟩
  rcases hf with hf | hf <;> rw[hf] <;> simp
 show g.syn=true\/g.rst=true->g.s=[];rintro (h | h)
 ·exact absurd h hy
 rw[hrs]at h;cases h
theorem resetS_ok (h:c.Ok){n:Int}(hn:0<=n/\n<=4294967295):(c.resetS n).Ok:=by
 have hc:=h.cfr;exact { fp:=hc.1,tp:=hc.2.1,sq:=hn,ak:=(by decide:(0:Int)<=0/\(0:Int)<=4294967295),has:=fun _=>rfl,win:=(by decide:(0:Int)<=0/\(0:Int)<=65535),fl:=⟨(fun h=>nomatch h.1),(fun h=>nomatch h.1),(fun h=>nomatch h.1)⟩,mss:=fun _=>⟨rfl,rfl⟩,mssS:=(fun h=>nomatch h),blen:=(by decide:([]:List Sp).length<=3),bhas:=fun h=>absurd h (by show ¬0<([]:List Sp).length;decide),blk:=(fun x hx=>nomatch hx),sS:=fun _=>rfl,slen:=(by decide:(([]:List UInt8).length:Int)<=1024-8*(([]:List Sp).length:Int)) }
theorem synS_ok (h:c.Ok):c.synS.Ok:=by
 have hm:=h.cfr.2.2.2.1;have hb:Body { dg with syn:=true,mss:=c.cf.mss,sacks:=true }:=⟨rfl,rfl,rfl,.inr rfl,(fun h=>nomatch h),(fun _=>.inr (by dsimp only;omega)),fun _=>rfl,(by decide:([]:List UInt8).length<=1000)⟩;unfold Cn.synS;split
 ·exact h.addressS hb 0 rfl
 exact h.ackS_ok hb 0
theorem sf (c:Cn){lo hi:Int}(hl:lo<=hi):((c.data lo hi).length:Int)<=hi-lo:=by
 unfold Cn.data mm;rw[List.length_drop,List.length_take];omega
theorem qe (c:Cn)(lo hi:Int)(hl:hi<=lo):c.data lo hi=[]:=by
 apply List.eq_nil_of_length_eq_zero
 unfold Cn.data mm;rw[List.length_drop,List.length_take];omega
theorem pieceS_ok (h:c.Ok){lo hi:Int}(h1:(c.data lo hi).length<=1000):(c.pieceS lo hi).Ok :=
 h.ackS_ok ⟨rfl,rfl,rfl,.inl rfl,fun _=>⟨rfl,rfl⟩,(fun h=>absurd h Bool.false_ne_true),(fun h=>absurd h Bool.false_ne_true),h1⟩ lo
theorem data_fresh (h:c.Ok){n:Int}(h0:0<=n)(h1:n<=c.mss):(c.data c.next (c.freshTo n)).length<=1000:=by
 have hm:=h.mss;unfold Cn.freshTo Cn.data mm;rw[List.length_drop,List.length_take];split
 ·rename_i hx;have h2:c.next+n=c.base+c.held.length:=hx.2;omega
 omega
theorem freshS_ok (h:c.Ok){n:Int}(h0:0<=n)(h1:n<=c.mss):(c.freshS n).Ok:=h.pieceS_ok (h.data_fresh h0 h1)
theorem allowed_bd (h:c.Ok):0<=c.allowed/\c.allowed<=c.mss:=by
 have:=h.mss;unfold Cn.allowed;split
 ·omega
 split
 ·omega
 split <;> omega
theorem all_nil {P:Sg->Prop}:∀x∈([]:List Sg),P x:=fun _ hx=>nomatch hx
theorem all_add {P:Sg->Prop}{l:List Sg}(h:∀x∈l,P x){y:Sg}(hy:P y):∀x∈l++[y],P x:=by
 intro x hx
 rcases List.mem_append.1 hx with hx | hx
 ·exact h x hx
 rw[List.mem_singleton.1 hx];exact hy
theorem sg (n:Nat):∀{c:Cn} (_:c.Ok) (l:List Sg),(∀x∈l,x.Ok)->∀x∈(Go.Proofs.YtclkcmidhhfdmaaGreatDoor.lostL n c l).2,x.Ok:=by
 induction n with
 | zero=>exact fun h l hl=>hl
 | succ n ih =>
  intro c h l hl;unfold Go.Proofs.YtclkcmidhhfdmaaGreatDoor.lostL;split
  ·split
   ·exact hl
   rename_i x _ _;split
   ·refine ih ((h.pieceC.onSc (h.sc.ret _)).onTm (Tm.retr_fit h.tm)) _ (all_add hl (h.pieceS_ok ?_));have hm:=h.mss;by_cases hle:x.1<=(aS c.mss x).2
    ·have:=sf c hle;unfold aS at this|-;dsimp only at this|-;omega
    rw[qe c _ _ (by omega)];decide
   exact hl
  exact hl
theorem si {now:Int}(hn:aI now)(n:Nat):∀{c:Cn} (_:c.Ok) (l:List Sg),(∀x∈l,x.Ok)->∀x∈(Go.Proofs.YtclkcmidhhfdmaaGreatDoor.sizeL now n c l).2,x.Ok:=by
 induction n with
 | zero=>exact fun h l hl=>hl
 | succ n ih =>
  intro c h l hl;unfold Go.Proofs.YtclkcmidhhfdmaaGreatDoor.sizeL;split
  ·have:=h.allowed_bd;exact ih (h.out hn _) _ (all_add hl (h.freshS_ok this.1 this.2))
  exact hl
theorem pushD_sg (h:c.Ok){now:Int}(hn:aI now):∀x∈(c.pushD now).2,x.Ok:=by
 have h1:=Cn.Ok.lostL (c.flight.toNat+1) h [];have h2:=sg (c.flight.toNat+1) h [] all_nil;unfold Cn.pushD;dsimp only;generalize Go.Proofs.YtclkcmidhhfdmaaGreatDoor.lostL (c.flight.toNat+1) c []=a at h1 h2|-;have h3:=Cn.Ok.sizeL hn (a.1.unsent.toNat+1) h1 a.2;have h4:=si hn (a.1.unsent.toNat+1) h1 a.2 h2;generalize Go.Proofs.YtclkcmidhhfdmaaGreatDoor.sizeL now (a.1.unsent.toNat+1) a.1 a.2=b at h3 h4|-;unfold Go.Proofs.YtclkcmidhhfdmaaGreatDoor.finL;split
 ·have:=h3.mss;exact all_add h4 (h3.freshS_ok (by decide) (by omega))
 exact h4
theorem pushA_sg (h:c.Ok)(l:List Sg)(hl:∀x∈l,x.Ok):∀x∈(c.pushA l).2,x.Ok:=by
 unfold Cn.pushA;split
 ·exact all_add hl (h.ackS_ok xK _)
 exact hl
theorem push_sg (h:c.Ok){now:Int}(hn:aI now):∀x∈(c.push now).2,x.Ok:=by
 unfold Cn.push;split
 ·exact all_nil
 dsimp only;split
 ·exact(h.pushD hn).pushA_sg _ (h.pushD_sg hn)
 exact h.pushA_sg _ all_nil
theorem one_sg {P:Sg->Prop}{y:Sg}(hy:P y):∀x∈[y],P x:=fun x hx=>by rw[List.mem_singleton.1 hx];exact hy
theorem process_sg (h:c.Ok){now:Int}(hn:aI now){s:Sg}(hs:s.Ok){off:Int}(ho: -2147483648<=off/\off<=2147483647):∀x∈(c.process now s off).2,x.Ok:=by
 have hd:=bH s.ak c.cf.iss;unfold Cn.process;dsimp only;split
 ·rename_i h2;have ht:=h.tr2 (by omega);split
  ·exact one_sg (h.resetS_ok hs.ak)
  have h3:=h.step hn ht 4;split
  ·exact((h3.step hn (by rw[Cn.step_tries];exact ht) 5).tail hn hs ho hd.2).push_sg hn
  exact(h3.tail hn hs ho hd.2).push_sg hn
 split
 ·exact h.ackNow.push_sg hn
 exact(h.tail hn hs ho hd.2).push_sg hn
theorem stray_sg (h:c.Ok){now:Int}(hn:aI now){s:Sg}(hs:s.Ok):∀x∈(c.stray now s).2,x.Ok:=by
 have hd:=bH s.ak c.cf.iss;unfold Cn.stray;dsimp only
 have h1:Cn.Ok (if cA c.st=true/\s.has=true/\s.syn=false/\c.una<=aD s.ak c.cf.iss/\aD s.ak c.cf.iss<=c.next then c.acked now s (aD s.ak c.cf.iss)else c):=by
  split
  ·exact(h.acked hn hs (by omega)).1
  exact h
 generalize (if cA c.st=true/\s.has=true/\s.syn=false/\c.una<=aD s.ak c.cf.iss/\aD s.ak c.cf.iss<=c.next then c.acked now s (aD s.ak c.cf.iss)else c)=a at h1|-
 have h2:Cn.Ok (if a.st=9/\s.fin=true then { a with per:=.aft now 60 }else a):=by
  split
  ·exact { h1 with per:=Al.aft_ok hn (by decide) (by decide) }
  exact h1
 generalize (if a.st=9/\s.fin=true then { a with per:=.aft now 60 }else a)=b at h2|-;split
 ·exact h2.ackNow.push_sg hn
 exact h2.push_sg hn
theorem greet_sg (h:c.Ok){now:Int}(hn:aI now){s:Sg}(hs:s.Ok):∀x∈(c.greet now s).2,x.Ok:=by
 unfold Cn.greet;split
 ·split
  ·exact all_nil
  exact one_sg (h.resetS_ok hs.ak)
 split
 ·exact all_nil
 split
 ·exact all_nil
 rename_i hy;have hy:s.syn=true:=by simpa using hy
 have hm:=(h.meet hs hy).tries0;dsimp only;split
 ·exact one_sg (hm.step hn (by show(0:Int)<=12;decide) 2).synS_ok
 exact(onDl (step ((hm.onSc (hm.sc.acked 1 [])).onTm (Tm.acked_fit hm.tm now 1)) hn (by show(0:Int)<=12;decide) 3) eE).ackNow.push_sg hn
theorem receive_sg (h:c.Ok){now:Int}(hn:aI now){s:Sg}(hs:s.Ok):∀x∈(c.receive now s).2,x.Ok:=by
 have ho:=bH s.sq (bt c.irs 1);unfold Cn.receive;split
 ·exact all_nil
 rename_i h0;split
 ·exact all_nil
 split
 ·exact h.greet_sg hn hs
 unfold Cn.recvOk;dsimp only;split
 ·exact all_nil
 split
 ·exact all_nil
 split
 ·exact h.stray_sg hn hs
 split
 ·exact h.ackNow.push_sg hn
 split
 ·exact all_nil
 exact h.process_sg hn hs ho
theorem expire_sg (h:c.Ok):∀x∈c.expire.2,x.Ok:=by
 have hm:=h.mss;unfold Cn.expire;split
 ·exact all_nil
 split
 ·exact all_nil
 exact one_sg (h.freshS_ok (by omega) (by omega))
theorem tickEnd_sg (h:c.Ok){now:Int}(hn:aI now)(l:List Sg)(hl:∀x∈l,x.Ok):∀x∈(c.tickEnd now l).2,x.Ok:=by
 unfold Cn.tickEnd;dsimp only;intro x hx
 rcases List.mem_append.1 hx with hx | hx
 ·exact hl x hx
 revert hx
 split
 ·exact h.ackNow.push_sg hn x
 exact h.push_sg hn x
theorem tick_sg (h:c.Ok){now:Int}(hn:aI now):∀x∈(c.tick now).2,x.Ok:=by
 unfold Cn.tick;split
 ·exact all_nil
 rename_i h0;have ht:=h.tr2 h0;split
 ·exact all_nil
 split
 ·dsimp only;split
  ·exact all_nil
  rename_i hx
  have hv:0<=c.tm.retr.backoff.value/\c.tm.retr.backoff.value<=1000:=by
   have h1:=c.tm.retr.backoff.base_bd;have h2:(0:Int)<=c.tm.retr.backoff.base*2 ^ c.tm.retr.backoff.backs.toNat:=Int.mul_nonneg (by omega) (Int.pow_nonneg (by decide));unfold Tm.value;omega
  have he:Cn.Ok { c with tries:=c.tries+1,tm:=c.tm.retr.backoff,dl:=.aft now c.tm.retr.backoff.value } :=
   { h with tr:=by have:=h.tr;dsimp only;omega,tr2:=fun _=>by dsimp only;omega,tm:=Tm.backoff_fit (Tm.retr_fit h.tm),dl:=Al.aft_ok hn hv.1 hv.2 }
  split
  ·exact he.expire.tickEnd_sg hn _ he.expire_sg
  exact one_sg he.synS_ok
 exact h.tickEnd_sg hn _ all_nil
theorem send_sg (h:c.Ok){now:Int}(hn:aI now)(s:List UInt8)(hb:c.last+s.length<=1073741824):∀x∈(c.send now s).2,x.Ok:=by
 unfold Cn.send;split
 ·exact all_nil
 refine push_sg (c:={ c with held:=c.held++s.take (c.sendN s).toNat }) { h with b1:= ?_ } hn;unfold Cn.last at hb|-;dsimp only;rw[List.length_append,List.length_take];omega
theorem recv_sg (h:c.Ok){now:Int}(hn:aI now)(n:Int):∀x∈(c.recv now n).2,x.Ok:=by
 unfold Cn.recv;split
 ·exact all_nil
 dsimp only;split
 ·exact all_nil
 split
 ·exact all_nil
 exact(h.take n).ackNow.push_sg hn
theorem close_sg (h:c.Ok){now:Int}(hn:aI now):∀x∈(c.close now).2,x.Ok:=by
 have hs:Cn.Ok { c with shut:=true }:={ h with };unfold Cn.close;split
 ·exact all_nil
 rename_i hx;have h0:c.st≠0:=fun e=>hx (.inl e);dsimp only;split
 ·exact all_nil
 split
 ·exact hs.push_sg hn
 exact(hs.step hn (h.tr2 h0) _).push_sg hn
end Cn.Ok
end
end Go.Proofs.YtclkcmidhhfdmaaGreatDoor
