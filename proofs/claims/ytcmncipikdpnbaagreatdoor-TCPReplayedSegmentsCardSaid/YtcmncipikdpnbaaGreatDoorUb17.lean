import Derived.Test.YtcmncipikdpnbaaGreatDoorUb8
import Derived.Test.YtcmncipikdpnbaaGreatDoorUb11
namespace Go.Proofs.YtcmncipikdpnbaaGreatDoor
section
theorem ry {s e n:Int}(h:gS s e=some n):0<=n/\n<=9:=by
 unfold gS at h
 (repeat' split at h) <;> first | (cases h;done) | (injection h with h;subst h;decide)
theorem CF:(0:Int)<=0/\(0:Int)<=2:=by decide
theorem C3:(0:Int)<=1/\(1:Int)<=2:=by decide
theorem CY:(0:Int)<=2/\(2:Int)<=2:=by decide
def Al.Ok (a:Al):Prop:=aI a.since/\0<=a.ticks/\a.ticks<=1000
theorem dx:eE.Ok:=⟨⟨D,D⟩,D,D⟩
theorem Al.Cz {now t:Int}(h:aI now)(h1:0<=t)(h2:t<=1000):(Al.Ck now t).Ok:=⟨h,h1,h2⟩
structure Cn.Ok (c:Cn):Prop where
 sc:c.sc.Ok
 bx:c.bx.Ok
 Fh:∀i,c.bx.has i->i<2147487744
 tm:c.tm.Fit
 cg:c.cg.Ok
 b0:0<=c.base
 b1:c.last<=1073741824
 lim:0<=c.limit/\c.limit<=1099511627776
 De:0<=c.largest/\c.largest<=65535
 go:28<=c.go/\c.go<=1000
 mark:0<=c.mark/\c.mark<=1099511627776
 ann:0<=c.ann/\c.ann<=2199023255552
 room:1<=c.room/\c.room<=8192
 sw: -1099511627776<=c.sw/\c.sw<=1099511627776
 cf:c.cf.okB=true
 st:0<=c.st/\c.st<=9
 pend:0<=c.pend/\c.pend<=2
 t8:c.t8.Ok
 dl:c.dl.Ok
 per:c.per.Ok
 tr:0<=c.tries/\c.tries<=13
 tr2:c.st≠0->c.tries<=12
 ring:(c.bx.ring.length:Int)=c.room
 FW:c.ann<=c.most
namespace Cn.Ok
variable {c : Cn}
theorem hlen (h:c.Ok):(c.held.length:Int)<=1073741824:=by have:=h.b0;have:=h.b1;unfold Cn.last at this;omega
theorem Ew (h:c.Ok):c.base<=1073741824:=by have:=h.b0;have:=h.b1;unfold Cn.last at this;omega
theorem Hc (h:c.Ok):c.bx.nx<=2147487744:=by
 by_cases hz:c.bx.nx<=0
 ·omega
 have:=h.Fh (c.bx.nx-1) (.inl O);omega
theorem Ii (h:c.Ok):c.bx.rd<=2147487744:=LE h.bx.Cv h.Hc
theorem most (h:c.Ok):0<=c.most/\c.most<=2147495936:=by
 have:=h.Ii;have:=h.bx.E1;have:=h.bx.most;unfold Cn.most;omega
theorem gi (h:c.Ok):0<=c.gi/\c.gi<=c.next/\c.next<=1099511627776:=⟨h.sc.u0,h.sc.un,h.sc.n40⟩
theorem expected (h:c.Ok):0<=c.expected/\c.expected<=2147487745:=by
 have:=h.Hc;have:=h.bx.E1;have:=h.bx.Cv;unfold Cn.expected;split <;> omega
theorem raised (h:c.Ok)(m:Int):0<=c.raised m/\c.raised m<=2199023255552/\c.bx.nx<=c.raised m/\c.raised m<=c.most:=by
 have:=h.Hc;have:=h.bx.E1;have:=h.bx.Cv;have:=h.most;have:=h.ann;have:=h.bx.Du;have:=h.FW;have:c.bx.nx<=c.most:=by unfold Cn.most;omega
 unfold Cn.raised;split <;> omega
theorem Hd (h:c.Ok):(1<=c.cf.fp/\c.cf.fp<=65535)/\(1<=c.cf.tp/\c.cf.tp<=65535)/\(0<=c.cf.ki/\c.cf.ki<=4294967295)/\(28<=c.cf.go/\c.cf.go<=1000)/\(1<=c.cf.room/\c.cf.room<=8192)/\1<=c.cf.keep/\c.cf.keep<=8192:=by
 have:=h.cf;unfold Cf.okB at this;exact LN this
theorem kc (h:c.Ok):0<=c.kc/\c.kc<=1073741824:=by
 have:=h.gi;have:=h.b1;unfold Cn.kc;omega
theorem step (h:c.Ok){now:Int}(d:aI now)(a:c.tries<=12)(e:Int):(c.step now e).Ok:=by
 unfold Cn.step;split
 ·exact h
 rename_i n f;have b:0<=n/\n<=9:=ry f;split
 ·rename_i g;exact { h with per:=Al.Cz d D D,st:=b,tr2:=fun _=>a }
 exact { h with st:=b,tr2:=fun _=>a }
theorem finish (h:c.Ok){now:Int}(a:aI now)(b:c.tries<=12)(e d:Int):(c.finish now e d).Ok:=by
 have:=h.step a b e;exact { this with }
theorem i2 (h:c.Ok):c.i2.Ok:={ h with pend:=CY }
theorem xa (h:c.Ok){now:Int}(a:aI now):(c.xa now).Ok:=by
 unfold Cn.xa;split
 ·exact { h with pend:=CY }
 exact { h with pend:=C3,t8:=Al.Cz a D D }
theorem wk (h:c.Ok)(b:Bool):(c.wk b).Ok:=by
 have:=h.raised c.go;unfold Cn.wk;split
 ·exact { h with pend:=CF }
 exact { h with pend:=CF,ann:=⟨this.1,this.2.1⟩,FW:=this.2.2.2 }
theorem Cc (h:c.Ok):c.Cc.Ok:=by
 have d:=h.room;have a:0<=c.room/\c.room<=2199023255552:=O
 have b:c.room<=c.most:=by have:=h.ring;have:=h.bx.E1;unfold Cn.most;omega
 unfold Cn.Cc;split
 ·exact { h with ann:=a,FW:=b }
 exact { h with pend:=CF,ann:=a,FW:=b }
theorem tq (h:c.Ok):c.tq.Ok:=h.wk false
theorem DH (h:c.Ok){s:Sc}(hs:s.Ok):Cn.Ok { c with sc:=s }:={ h with sc:=hs }
theorem DY (h:c.Ok){s:Tm}(hs:s.Fit):Cn.Ok { c with tm:=s }:={ h with tm:=hs }
theorem Gp (h:c.Ok){s:Cg}(hs:s.Ok):Cn.Ok { c with cg:=s }:={ h with cg:=hs }
theorem EJ (h:c.Ok){s:Al}(hs:s.Ok):Cn.Ok { c with dl:=s }:={ h with dl:=hs }
theorem qa (h:c.Ok)(n:Int):(c.qa n).Ok:=h.tq.DH (h.sc.sent _)
theorem out (h:c.Ok){now:Int}(a:aI now)(n:Int):(c.out now n).Ok:=(h.qa n).DY (Tm.F4 h.tm now _ a)
theorem oi (n:Nat):∀{c:Cn} (_:c.Ok) (l:List Sg),(oi n c l).1.Ok:=by
 induction n with
 | zero=>exact fun h l=>h
 | succ n a =>
  intro c h l;unfold Go.Proofs.YtcmncipikdpnbaaGreatDoor.oi;split
  ·split
   ·exact h
   rename_i x _ _;split
   ·exact a ((h.tq.DH (h.sc.ret _)).DY (Tm.A3 h.tm)) _
   exact h.tq.DH (h.sc.ret _)
  exact h
theorem nA {now:Int}(a:aI now)(n:Nat):∀{c:Cn} (_:c.Ok) (l:List Sg),(nA now n c l).1.Ok:=by
 induction n with
 | zero=>exact fun h l=>h
 | succ n b =>
  intro c h l;unfold Go.Proofs.YtcmncipikdpnbaaGreatDoor.nA;split
  ·exact b (h.out a _) _
  exact h
theorem Cb {now:Int}(a:aI now)(h:c.Ok)(l:List Sg):(Cb now c l).1.Ok:=by
 unfold Go.Proofs.YtcmncipikdpnbaaGreatDoor.Cb;split
 ·exact h.out a _
 exact h
theorem qb {now:Int}(a:aI now)(h:c.Ok):(c.qb now).1.Ok:=by
 unfold Cn.qb;exact Cb a (nA a _ (oi _ h _) _) _
theorem tt (h:c.Ok)(l:List Sg):(c.tt l).1.Ok:=by
 unfold Cn.tt;split
 ·exact h.wk false
 exact h
theorem value (_h:c.Ok):0<=c.tm.value/\c.tm.value<=1000:=by
 have h1:=c.tm.Dy;have h2:(0:Int)<=c.tm.base*2 ^ c.tm.backs.toNat:=MV O (Ni D);unfold Tm.value;omega
theorem o6 (h:c.Ok){now:Int}(a:aI now):(c.o6 now).Ok:=by
 unfold Cn.o6;split
 ·exact h.EJ dx
 split
 ·exact h
 exact h.EJ (Al.Cz a h.value.1 h.value.2)
theorem push (h:c.Ok){now:Int}(a:aI now):(c.push now).1.Ok:=by
 unfold Cn.push;split
 ·exact h
 dsimp only;split
 ·exact((h.qb a).tt _).o6 a
 exact(h.tt _).o6 a
theorem announce (h:c.Ok){a w:Int}(ha:a<=1099511562240)(hw:0<=w/\w<=65535):(c.announce a w).Ok:=by
 have:=h.lim;have:=h.De;unfold Cn.announce;exact { h with lim:=IN,De:=IN}
theorem resize (h:c.Ok){m:Int}(b:m=0\/28<=m):(c.resize m).Ok:=by
 have d:=h.go;have a:28<=min c.go (if m=0 then 28 else m)/\min c.go (if m=0 then 28 else m)<=1000:=JC
 unfold Cn.resize;exact { h with go:=a,cg:=wY a.1 O }
theorem meet (h:c.Ok){s:Sg}(hs:s.Ok)(hy:s.syn=true):(c.meet s).Ok:=by
 unfold Cn.meet;refine resize (announce ({ h with }:Cn.Ok { c with A2:=s.sq,ke:=s.ke }) D hs.win) ?_;have:=hs.Ef hy;omega
theorem drop (h:c.Ok)(u:Int):(c.drop u).Ok:=by
 have h0:=h.b0;have h1:=h.b1;have a:0<=dI c.held c.base u/\dI c.held c.base u<=c.held.length:=by unfold dI;omega
 unfold Cn.drop;refine { h with b0:=IN,b1:= ?_ };unfold Cn.last at h1|-;dsimp only;rw[Lt];omega
theorem report (h:c.Ok)(a:Int)(bl:List Sp):(c.report a bl).Ok:=h.DH (h.sc.i1 _ _)
theorem flight (h:c.Ok):0<=c.flight/\c.flight<=1099511627776:=by
 have:=h.gi;unfold Cn.flight;unfold Cn.gi Cn.next at this;omega
theorem DM (h:c.Ok):Cn.Ok { c with tries:=0 }:={ h with tr:=⟨Lb 0,(D:(0:Int)<=13)⟩,tr2:=fun _=>(D:(0:Int)<=12) }
theorem GK (h:c.Ok):aI c.next:=by have:=h.gi;unfold aI;omega
theorem i1 (h:c.Ok){now:Int}(l:aI now){s:Sg}(hs:s.Ok){ack:Int}(ha:ack<=1099511562240):(c.i1 now s ack).Ok/\(c.i1 now s ack).tries=0:=by
 unfold Cn.i1;split
 ·exact⟨h.DM,Z⟩
 dsimp only;have g:=h.DM.report ack s.bl
 have h1:Cn.Ok (if c.gi<ack then(if 0<ack-max c.gi 1 then({ ({ c with tries:=0 }:Cn).report ack s.bl with dl:=eE,tm:=(({ c with tries:=0 }:Cn).report ack s.bl).tm.i1 now ack,cg:=(({ c with tries:=0 }:Cn).report ack s.bl).cg.i1 (ack-max c.gi 1) ack }:Cn)else { ({ c with tries:=0 }:Cn).report ack s.bl with dl:=eE,tm:=(({ c with tries:=0 }:Cn).report ack s.bl).tm.i1 now ack }).drop ack else({ c with tries:=0 }:Cn).report ack s.bl)/\(if c.gi<ack then(if 0<ack-max c.gi 1 then({ ({ c with tries:=0 }:Cn).report ack s.bl with dl:=eE,tm:=(({ c with tries:=0 }:Cn).report ack s.bl).tm.i1 now ack,cg:=(({ c with tries:=0 }:Cn).report ack s.bl).cg.i1 (ack-max c.gi 1) ack }:Cn)else { ({ c with tries:=0 }:Cn).report ack s.bl with dl:=eE,tm:=(({ c with tries:=0 }:Cn).report ack s.bl).tm.i1 now ack }).drop ack else({ c with tries:=0 }:Cn).report ack s.bl).tries=0:=by
  have k:=(g.EJ dx).DY (Tm.Ce g.tm now ack);split
  ·split
   ·exact⟨(k.Gp (Cg.E6 g.cg _ _)).drop _,Z⟩
   exact⟨k.drop _,Z⟩
  exact⟨g,Z⟩
 generalize (if c.gi<ack then(if 0<ack-max c.gi 1 then({ ({ c with tries:=0 }:Cn).report ack s.bl with dl:=eE,tm:=(({ c with tries:=0 }:Cn).report ack s.bl).tm.i1 now ack,cg:=(({ c with tries:=0 }:Cn).report ack s.bl).cg.i1 (ack-max c.gi 1) ack }:Cn)else { ({ c with tries:=0 }:Cn).report ack s.bl with dl:=eE,tm:=(({ c with tries:=0 }:Cn).report ack s.bl).tm.i1 now ack }).drop ack else({ c with tries:=0 }:Cn).report ack s.bl)=a at h1|-;obtain⟨h1,i⟩:=h1;have h2:=h1.announce ha hs.win;have e:(a.announce ack s.win).tries=0:=i;generalize a.announce ack s.win=b at h2 e|-
 have f:Cn.Ok (if 0<c.Dx ack s.bl/\b.mark<=ack/\b.sc.lost b.go≠[]then { b with cg:=b.cg.lost c.flight b.next }else b)/\(if 0<c.Dx ack s.bl/\b.mark<=ack/\b.sc.lost b.go≠[]then { b with cg:=b.cg.lost c.flight b.next }else b).tries=0:=by
  split
  ·exact⟨h2.Gp (Cg.Fw h2.cg _ h2.GK),e⟩
  exact⟨h2,e⟩
 generalize (if 0<c.Dx ack s.bl/\b.mark<=ack/\b.sc.lost b.go≠[]then { b with cg:=b.cg.lost c.flight b.next }else b)=d at f|-;obtain⟨f,j⟩:=f;split
 ·refine⟨f.step l O _,?_⟩;unfold Cn.step;split
  ·exact j
  split <;> exact j
 exact⟨f,j⟩
theorem insert (h:c.Ok){off:Int}{s:List UInt8}(g:off<=2147483647)(hs:s.length<=1024):(c.insert off s).Ok:=by
 have j:(nO c.ended c.sw off s).length<=1024:=by
  unfold nO;rw[Lt];split
  ·rw[Lg];omega
  omega
 have a:(c.Ca off s).Ok/\(∀i,(c.Ca off s).has i->i<2147487744)/\(c.Ca off s).rd=c.bx.rd/\(c.Ca off s).ring.length=c.bx.ring.length:=by
  unfold Cn.Ca;split
  ·exact⟨h.bx,h.Fh,Z,Z⟩
  obtain⟨p1,b,d,-,e⟩:=Bx.DQ h.bx (nO c.ended c.sw off s) (off:=max off 0) O O;refine⟨p1,fun i hi=> ?_,b,d⟩
  rcases(e i).1 hi with hi | hi
  ·exact h.Fh i hi
  omega
 have f:(c.insert off s).most=c.most:=by unfold Cn.most Cn.insert;dsimp only;rw[a.2.2.1,a.2.2.2]
 exact { h with bx:=a.1,Fh:=a.2.1,ring:=by unfold Cn.insert;dsimp only;rw[a.2.2.2];exact h.ring,FW:=by rw[f];exact h.FW }
theorem store (h:c.Ok){now:Int}(d:aI now){s:Sg}(hs:s.Ok){off:Int}(a:off<=2147483647):(c.store now s off).Ok:=by
 have b:s.s.length<=1024:=by have:=hs.DX;omega
 unfold Cn.store;split
 ·exact h
 split
 ·split
  ·exact(h.insert a b).xa d
  exact(h.insert a b).i2
 exact h.i2
theorem tl (h:c.Ok){now:Int}(e:aI now){s:Sg}(hs:s.Ok){off:Int}(f: -2147483648<=off/\off<=2147483647)(b:c.tries<=12):(c.tl now s off).Ok:=by
 have g:s.s.length<=1024:=by have:=hs.DX;omega
 unfold Cn.tl;dsimp only
 have h1:Cn.Ok (if s.fin=true/\aV c.st=true/\c.ended=false/\c.bx.nx<=off+s.s.length then { c with ended:=true,sw:=off+s.s.length }else c)/\(if s.fin=true/\aV c.st=true/\c.ended=false/\c.bx.nx<=off+s.s.length then { c with ended:=true,sw:=off+s.s.length }else c).tries<=12:=by
  split
  ·exact⟨{ h with sw:=IN},b⟩
  exact⟨h,b⟩
 generalize (if s.fin=true/\aV c.st=true/\c.ended=false/\c.bx.nx<=off+s.s.length then { c with ended:=true,sw:=off+s.s.length }else c)=d at h1|-;obtain⟨h1,a⟩:=h1;split
 ·exact(step ({ h1 with }:Cn.Ok { d with over:=true }) e a 6).i2
 exact h1
end Cn.Ok
end
section
theorem bP (a b:Int): -2147483648<=aE a b/\aE a b<=2147483647:=by unfold aE;omega
theorem fF (a n:Int):0<=aw a n/\aw a n<=4294967295:=by unfold aw;omega
theorem Cn.DR (c:Cn)(now:Int)(s:Sg)(off:Int):(c.store now s off).tries=c.tries:=by
 unfold Cn.store;split
 ·rfl
 split
 ·split
  ·unfold Cn.xa;split <;> rfl
  rfl
 rfl
theorem Cn.Dc (c:Cn)(now e:Int):(c.step now e).tries=c.tries:=by
 unfold Cn.step;split
 ·rfl
 split <;> rfl
theorem uu {s:Sg}(hs:s.Ok):0<=aq s/\aq s<=1025:=by
 have h1:=hs.DX;have h2:=hs.fl;have a:=hs.sS;unfold aq;by_cases hy:s.syn=true
 ·rw[a (.inl hy)]at *;have:¬s.fin=true:=fun b=>h2.1 ⟨hy,b⟩;rw[L9 hy,L7 this]
  simp
 rw[L7 hy];split <;> omega
namespace Cn.Ok
variable {c : Cn}
theorem tail (h:c.Ok){now:Int}(a:aI now){s:Sg}(hs:s.Ok){off ack:Int}(b: -2147483648<=off/\off<=2147483647)(ha:ack<=2147483647) :
  (((c.i1 now s ack).store now s off).tl now s off).Ok:=by
 obtain⟨h1,h2⟩:=h.i1 a hs (ack:=ack) O;exact(h1.store a hs b.2).tl a hs b (by rw[Cn.DR,h2];decide)
theorem process (h:c.Ok){now:Int}(a:aI now){s:Sg}(hs:s.Ok){off:Int}(b: -2147483648<=off/\off<=2147483647):(c.process now s off).1.Ok:=by
 have d:=bP s.ak c.cf.ki;unfold Cn.process;dsimp only;split
 ·rename_i h2;have e:=h.tr2 O;split
  ·exact h
  have f:=h.step a e 4;split
  ·exact((f.step a (by rw[Cn.Dc];exact e) 5).tail a hs b d.2).push a
  exact(f.tail a hs b d.2).push a
 split
 ·exact h.i2.push a
 exact(h.tail a hs b d.2).push a
theorem stray (h:c.Ok){now:Int}(d:aI now){s:Sg}(hs:s.Ok):(c.stray now s).1.Ok:=by
 have e:=bP s.ak c.cf.ki;unfold Cn.stray;dsimp only
 have h1:Cn.Ok (if bf c.st=true/\s.has=true/\s.syn=false/\c.gi<=aE s.ak c.cf.ki/\aE s.ak c.cf.ki<=c.next then c.i1 now s (aE s.ak c.cf.ki)else c):=by
  split
  ·exact(h.i1 d hs O).1
  exact h
 generalize (if bf c.st=true/\s.has=true/\s.syn=false/\c.gi<=aE s.ak c.cf.ki/\aE s.ak c.cf.ki<=c.next then c.i1 now s (aE s.ak c.cf.ki)else c)=a at h1|-
 have h2:Cn.Ok (if a.st=9/\s.fin=true then { a with per:=.Ck now 60 }else a):=by
  split
  ·exact { h1 with per:=Al.Cz d D D }
  exact h1
 generalize (if a.st=9/\s.fin=true then { a with per:=.Ck now 60 }else a)=b at h2|-;split
 ·exact h2.i2.push d
 exact h2.push d
theorem Ct (h:c.Ok){now:Int}(a:aI now){s:Sg}(hs:s.Ok)(h0:c.st≠0):(c.Ct now s).1.Ok:=by
 unfold Cn.Ct;split
 ·split <;> exact h
 split
 ·exact h.finish a (h.tr2 h0) _ _
 split
 ·exact h
 rename_i hy;have hy:s.syn=true:=Jt
 have b:=(h.meet hs hy).DM;dsimp only;split
 ·exact(b.step a J4 2).Cc
 exact(EJ (step ((b.DH (b.sc.i1 1 [])).DY (Tm.Ce b.tm now 1)) a J4 3) dx).i2.push a
theorem Cw (h:c.Ok){now:Int}(a:aI now){s:Sg}(hs:s.Ok)(h0:c.st≠0):(c.Cw now s).1.Ok:=by
 have b:=bP s.sq (aw c.A2 1);unfold Cn.Cw;dsimp only;split
 ·exact h.finish a (h.tr2 h0) _ _
 split
 ·exact h
 split
 ·exact h.stray a hs
 split
 ·exact h.i2.push a
 split
 ·exact h
 exact h.process a hs b
theorem receive (h:c.Ok){now:Int}(a:aI now){s:Sg}(hs:s.Ok):(c.receive now s).1.Ok:=by
 unfold Cn.receive;split
 ·exact h
 rename_i h0;split
 ·exact h
 split
 ·exact h.Ct a hs h0
 exact h.Cw a hs h0
theorem expire (h:c.Ok):c.expire.1.Ok:=by
 have a:=h.gi;unfold Cn.expire;split
 ·exact { h with cg:=Cg.Fg h.cg _,sc:=h.sc.timeout,mark:=IN}
 split
 ·exact h
 exact h.qa _
theorem sg (h:c.Ok){now:Int}(a:aI now)(l:List Sg):(c.sg now l).1.Ok:=by
 unfold Cn.sg;dsimp only;split
 ·exact h.i2.push a
 exact h.push a
theorem tick (h:c.Ok){now:Int}(a:aI now):(c.tick now).1.Ok:=by
 unfold Cn.tick;split
 ·exact h
 rename_i h0;have b:=h.tr2 h0;split
 ·exact h.finish a b _ _
 split
 ·dsimp only;split
  ·rename_i g
   have h1:(Cn.step { c with tries:=c.tries+1 } now 9).st=0:=by
    unfold Cn.step;have:gS c.st 9=some 0:=by unfold gS;rw[L7 h0,L9 (.inr Z)]
    dsimp only;rw[this];rfl
   have h2:∀d:Cn,d.Ok->d.st=0->d.tries=c.tries->Cn.Ok { d with tries:=c.tries+1,err:=182 }:=fun d e hs i=>{ e with tr:=by have:=e.tr;dsimp only;omega,tr2:=fun h=>(h hs).elim }
   have j:Cn.finish { c with tries:=c.tries+1 } now 9 182={ c.step now 9 with tries:=c.tries+1,err:=182 }:=by
    unfold Cn.finish Cn.step;dsimp only
    cases gS c.st 9 with
    | none=>rfl
    | some n=>dsimp only;split <;> rfl
   rw[j];refine h2 _ (h.step a b 9) ?_ (Cn.Dc _ _ _);have:gS c.st 9=some 0:=by unfold gS;rw[L7 h0,L9 (.inr Z)]
   unfold Cn.step;rw[this];rfl
  rename_i g;have k:=h.tm.1
  have f:0<=c.tm.rl.kf.value/\c.tm.rl.kf.value<=1000:=by
   have h1:=c.tm.rl.kf.Dy;have h2:(0:Int)<=c.tm.rl.kf.base*2 ^ c.tm.rl.kf.backs.toNat:=MV O (Ni D);unfold Tm.value;omega
  have he:Cn.Ok { c with tries:=c.tries+1,tm:=c.tm.rl.kf,dl:=.Ck now c.tm.rl.kf.value } :=
   { h with tr:=by have:=h.tr;dsimp only;omega,tr2:=fun _=>by dsimp only;omega,tm:=Tm.D4 (Tm.A3 h.tm),dl:=Al.Cz a f.1 f.2 }
  split
  ·exact he.expire.sg a _
  exact he.Cc
 exact h.sg a _
theorem send (h:c.Ok){now:Int}(a:aI now)(s:List UInt8)(b:c.last+s.length<=1073741824):(c.send now s).1.Ok:=by
 unfold Cn.send;split
 ·exact h
 refine push (c:={ c with held:=c.held++s.take (c.pd s).toNat }) { h with b1:= ?_ } a;unfold Cn.last at b|-;dsimp only;rw[Lc,Lg];omega
theorem take (h:c.Ok)(n:Int):Cn.Ok { c with bx:=c.bx.take n }:=by
 obtain⟨d,e,a,b⟩:=c.bx.DG n
 have h1:(c.bx.take n).rd<=2147487744/\c.bx.rd<=(c.bx.take n).rd:=by
  have:=h.Hc;have:=h.bx.Cv;unfold Bx.take;split
  ·omega
  dsimp only;omega
 have:=h.bx.most;exact { h with bx:=Bx.Ok.take h.bx n O,Fh:=fun i hi=>h.Fh i ((b i).1 hi),ring:=by dsimp only;rw[a];exact h.ring,FW:=by have:=h.FW;unfold Cn.most at this|-;dsimp only;rw[a];omega }
theorem recv (h:c.Ok){now:Int}(a:aI now)(n:Int):(c.recv now n).1.Ok:=by
 unfold Cn.recv;split
 ·exact h
 dsimp only;split
 ·exact h.take n
 split
 ·exact h.take n
 exact(h.take n).i2.push a
theorem close (h:c.Ok){now:Int}(a:aI now):(c.close now).1.Ok:=by
 have hs:Cn.Ok { c with shut:=true }:={ h with };unfold Cn.close;split
 ·exact h
 rename_i b;have h0:c.st≠0:=fun e=>b (.inl e);dsimp only;split
 ·exact hs.finish a (h.tr2 h0) _ _
 split
 ·exact hs.push a
 exact(hs.step a (h.tr2 h0) _).push a
end Cn.Ok
theorem gE {now:Int}(a:aI now){c:Cf}(b:c.okB=true):(dZ now c).Ok:=by
 have d:=b;unfold Cf.okB at d;obtain⟨h1,h2,g,e,f,h⟩:=LN d
 exact {
  sc:=Aw.sent 1,bx:=xF _ O O,Fh:=fun i hi=>by
   rcases hi with hi | hi
   ·exact absurd hi.2 (by show ¬i<0;omega)
   ·exact(a8 hi).elim,
  tm:=Tm.F4 zq now 1 a,cg:=wY e.1 O,b0:=(D:(0:Int)<=1),b1:=(D:(1:Int)+(([]:List UInt8).length:Int)<=1073741824),lim:=(D:(0:Int)<=0/\(0:Int)<=1099511627776),De:=(D:(0:Int)<=0/\(0:Int)<=65535),go:=e,mark:=(D:(0:Int)<=0/\(0:Int)<=1099511627776),ann:=by show 0<=c.room/\c.room<=2199023255552;omega,room:=f,sw:=(D:(-1099511627776:Int)<=0/\(0:Int)<=1099511627776),cf:=b,st:=(D:(0:Int)<=0/\(0:Int)<=9),pend:=CF,t8:=dx,dl:=Al.Cz a D D,per:=dx,tr:=(D:(0:Int)<=0/\(0:Int)<=13),tr2:=fun _=>(D:(0:Int)<=12),ring:=by show((List.replicate c.room.toNat (0:UInt8)).length:Int)=c.room;rw[Mx];omega,FW:=by show c.room<=(0:Int)+(List.replicate c.room.toNat (0:UInt8)).length;rw[Mx];omega }
end
section
structure Body (g:Sg):Prop where
 te:g.te=false
 bl:g.bl=[]
 win:g.win=0
 fl:g.syn=false\/g.fin=false
 go:g.syn=false->g.go=0/\g.ke=false
 Ef:g.syn=true->g.go=0\/(28<=g.go/\g.go<=1024)
 sS:g.syn=true->g.s=[]
 DX:g.s.length<=1000
theorem Bk:Body dE:=⟨Z,Z,Z,.inl Z,fun _=>⟨Z,Z⟩,(fun h=>nomatch h),fun _=>rfl,D⟩
theorem rz {e:Int}{bl:List Sp}(h:aJ e bl=true){x:Sp}(a:x∈bl):x.1<x.2:=by
 induction bl generalizing e with
 | nil=>cases a
 | cons y t b =>
  rw[aB]at h
  rcases Mm.1 a with rfl | a
  ·exact h.1.2.2.1
  exact b h.2 a
theorem x9 {b:Bx}(ok:b.Ok){x:Sp}(d:x∈b.rep):b.nx<x.1/\x.1<x.2/\x.2<=b.rd+b.ring.length:=by
 have a:=Bx.Gm d;have e:=rz ok.canon a;have f:=ok.mem x.1 ⟨x,a,O⟩;have g:=ok.mem (x.2-1) ⟨x,a,O⟩;omega
namespace Cn.Ok
variable {c : Cn}
theorem FX (h:c.Ok){g:Sg}(b:Body g)(off:Int)(ha:g.ak=0):(c.address g off).Ok:=by
 have f:=h.Hd;have j:=h.room;have e:=b.fl;have d:=b.te
 have hw:0<=(if g.syn=true then c.room else g.win)/\(if g.syn=true then c.room else g.win)<=65535:=by
  have:=b.win;split <;> omega
 have a:(c.address g off).bl=[]:=b.bl;refine { fp:=f.1,tp:=f.2.1,sq:=fF _ _,ak:=by show 0<=g.ak/\g.ak<=4294967295;omega,has:=fun _=>ha,win:=hw,fl:= ?_,go:=b.go,Ef:=b.Ef,F0:=by rw[a];decide,FI:=by rw[a];intro h;exact absurd h D,blk:=by(rw[a];intro x i;exact(nomatch i)),sS:= ?_,DX:= ?_ }
 ·show ¬(g.syn=true/\g.fin=true)/\¬(g.syn=true/\g.te=true)/\¬(g.fin=true/\g.te=true);rw[d];refine⟨?_,IK,IK⟩
  rcases e with e | e <;> rw[e] <;> simp
 ·show g.syn=true\/g.te=true->g.s=[];rintro (h | h)
  ·exact b.sS h
  rw[d]at h;cases h
 rw[a];have:=b.DX;show(g.s.length:Int)<=1024-8*(0:Nat);omega
theorem EX (h:c.Ok){g:Sg}(d:Body g)(off:Int):(c.v7 g off).Ok:=by
 have j:=h.Hd;have o:=h.room;have e:=d.fl;have i:=d.te;have l:=h.raised c.go;have a:=d.bl;have m:=h.ring;have p:=h.bx.E1;have q:=h.bx.Cv;unfold Cn.v7;split
 ·rename_i hy;refine { fp:=j.1,tp:=j.2.1,sq:=fF _ _,ak:=fF _ _,has:=(fun h=>nomatch h),win:= ?_,fl:= ?_,go:=d.go,Ef:=d.Ef,F0:= ?_,FI:=fun _=>rfl,blk:= ?_,sS:= ?_,DX:= ?_ }
  ·show 0<=(if g.syn=true then c.room else g.win)/\(if g.syn=true then c.room else g.win)<=65535;rw[L9 hy];omega
  ·show ¬(g.syn=true/\g.fin=true)/\¬(g.syn=true/\g.te=true)/\¬(g.fin=true/\g.te=true);rw[i];refine⟨?_,IK,IK⟩
   rcases e with e | e <;> rw[e] <;> simp
  ·show g.bl.length<=3;rw[a];decide
  ·show ∀x∈g.bl,_;rw[a];intro x f;exact(nomatch f)
  ·show g.syn=true\/g.te=true->g.s=[];exact fun _=>d.sS hy
  show(g.s.length:Int)<=1024-8*g.bl.length;rw[a,d.sS hy]
  decide
 rename_i hy
 have n:∀x∈(if g.s=[]/\c.ke=true then g.bl++c.bx.rep.map (fun b=>(c.number b.1,c.number b.2))else g.bl),(0<=x.1/\x.1<=4294967295)/\(0<=x.2/\x.2<=4294967295)/\x.1≠x.2:=by
  rw[a];split
  ·intro x f;rw[LG]at f;obtain⟨y,hy,rfl⟩:=Mg.1 f;have:=x9 h.bx hy;refine⟨fF _ _,fF _ _,?_⟩;show aw c.A2 (y.1+1)≠aw c.A2 (y.2+1);unfold aw;omega
  intro x f;exact(nomatch f)
 have k:(if g.s=[]/\c.ke=true then g.bl++c.bx.rep.map (fun b=>(c.number b.1,c.number b.2))else g.bl).length<=3/\(g.s.length:Int)<=1024-8*(if g.s=[]/\c.ke=true then g.bl++c.bx.rep.map (fun b=>(c.number b.1,c.number b.2))else g.bl).length:=by
  have:=d.DX;rw[a];split
  ·rename_i f;rw[LG,LM,Bx.Dw,f.1];simp only[M4];omega
  simp only[M4];omega
 refine { fp:=j.1,tp:=j.2.1,sq:=fF _ _,ak:=fF _ _,has:=(fun h=>nomatch h),win:= ?_,fl:= ?_,go:=d.go,Ef:=d.Ef,F0:=k.1,FI:=fun _=>rfl,blk:=n,sS:= ?_,DX:=k.2 }
 ·show 0<=c.raised c.go-c.bx.nx/\c.raised c.go-c.bx.nx<=65535;have:=l.2.2;unfold Cn.most at this;omega
 ·show ¬(g.syn=true/\g.fin=true)/\¬(g.syn=true/\g.te=true)/\¬(g.fin=true/\g.te=true);rw[i];refine⟨?_,IK,IK⟩
  rcases e with e | e <;> rw[e] <;> simp
 show g.syn=true\/g.te=true->g.s=[];rintro (h | h)
 ·exact absurd h hy
 rw[i]at h;cases h
theorem EN (h:c.Ok){n:Int}(b:0<=n/\n<=4294967295):(c.x3 n).Ok:=by
 have a:=h.Hd;exact { fp:=a.1,tp:=a.2.1,sq:=b,ak:=(D:(0:Int)<=0/\(0:Int)<=4294967295),has:=fun _=>rfl,win:=(D:(0:Int)<=0/\(0:Int)<=65535),fl:=⟨(fun h=>nomatch h.1),(fun h=>nomatch h.1),(fun h=>nomatch h.1)⟩,go:=fun _=>⟨Z,Z⟩,Ef:=(fun h=>nomatch h),F0:=(D:([]:List Sp).length<=3),FI:=fun h=>absurd h (by show ¬0<([]:List Sp).length;decide),blk:=(fun x d=>nomatch d),sS:=fun _=>rfl,DX:=(D:(([]:List UInt8).length:Int)<=1024-8*(([]:List Sp).length:Int)) }
theorem E8 (h:c.Ok):c.x7.Ok:=by
 have b:=h.Hd.2.2.2.1;have a:Body { dE with syn:=true,go:=c.cf.go,ke:=true }:=⟨Z,Z,Z,.inr Z,(fun h=>nomatch h),(fun _=>.inr IN),fun _=>rfl,(D:([]:List UInt8).length<=1000)⟩;unfold Cn.x7;split
 ·exact h.FX a 0 Z
 exact h.EX a 0
theorem iW (c:Cn){lo hi:Int}(a:lo<=hi):((c.data lo hi).length:Int)<=hi-lo:=by
 unfold Cn.data lv;rw[Lt,Lg];omega
theorem uv (c:Cn)(lo hi:Int)(a:hi<=lo):c.data lo hi=[]:=by
 apply LU
 unfold Cn.data lv;rw[Lt,Lg];omega
theorem EO (h:c.Ok){lo hi:Int}(h1:(c.data lo hi).length<=1000):(c.nB lo hi).Ok :=
 h.EX ⟨Z,Z,Z,.inl Z,fun _=>⟨Z,Z⟩,(fun h=>absurd h N2),(fun h=>absurd h N2),h1⟩ lo
theorem Fi (h:c.Ok){n:Int}(h0:0<=n)(h1:n<=c.go):(c.data c.next (c.ms n)).length<=1000:=by
 have b:=h.go;unfold Cn.ms Cn.data lv;rw[Lt,Lg];split
 ·rename_i a;have h2:c.next+n=c.base+c.held.length:=a.2;omega
 omega
theorem Ec (h:c.Ok){n:Int}(h0:0<=n)(h1:n<=c.go):(c.kr n).Ok:=h.EO (h.Fi h0 h1)
theorem Ey (h:c.Ok):0<=c.allowed/\c.allowed<=c.go:=by
 have:=h.go;unfold Cn.allowed;split
 ·omega
 split
 ·omega
 split <;> omega
theorem all_nil {P:Sg->Prop}:∀x∈([]:List Sg),P x:=fun _ a=>nomatch a
theorem Dz {P:Sg->Prop}{l:List Sg}(h:∀x∈l,P x){y:Sg}(hy:P y):∀x∈l++[y],P x:=by
 intro x a
 rcases LH.1 a with a | a
 ·exact h x a
 rw[Ly.1 a];exact hy
theorem xc (n:Nat):∀{c:Cn} (_:c.Ok) (l:List Sg),(∀x∈l,x.Ok)->∀x∈(Go.Proofs.YtcmncipikdpnbaaGreatDoor.oi n c l).2,x.Ok:=by
 induction n with
 | zero=>exact fun h l a=>a
 | succ n d =>
  intro c h l a;unfold Go.Proofs.YtcmncipikdpnbaaGreatDoor.oi;split
  ·split
   ·exact a
   rename_i x _ _;split
   ·refine d ((h.tq.DH (h.sc.ret _)).DY (Tm.A3 h.tm)) _ (Dz a (h.EO ?_));have e:=h.go;by_cases b:x.1<=(aK c.go x).2
    ·have:=iW c b;unfold aK at this|-;dsimp only at this|-;omega
    rw[uv c _ _ O];decide
   exact a
  exact a
theorem xd {now:Int}(b:aI now)(n:Nat):∀{c:Cn} (_:c.Ok) (l:List Sg),(∀x∈l,x.Ok)->∀x∈(Go.Proofs.YtcmncipikdpnbaaGreatDoor.nA now n c l).2,x.Ok:=by
 induction n with
 | zero=>exact fun h l a=>a
 | succ n d =>
  intro c h l a;unfold Go.Proofs.YtcmncipikdpnbaaGreatDoor.nA;split
  ·have:=h.Ey;exact d (h.out b _) _ (Dz a (h.Ec this.1 this.2))
  exact a
theorem FY (h:c.Ok){now:Int}(f:aI now):∀x∈(c.qb now).2,x.Ok:=by
 have h1:=Cn.Ok.oi (c.flight.toNat+1) h [];have h2:=xc (c.flight.toNat+1) h [] all_nil;unfold Cn.qb;dsimp only;generalize Go.Proofs.YtcmncipikdpnbaaGreatDoor.oi (c.flight.toNat+1) c []=a at h1 h2|-;have d:=Cn.Ok.nA f (a.1.kc.toNat+1) h1 a.2;have e:=xd f (a.1.kc.toNat+1) h1 a.2 h2;generalize Go.Proofs.YtcmncipikdpnbaaGreatDoor.nA now (a.1.kc.toNat+1) a.1 a.2=b at d e|-;unfold Go.Proofs.YtcmncipikdpnbaaGreatDoor.Cb;split
 ·have:=d.go;exact Dz e (d.Ec D O)
 exact e
theorem F5 (h:c.Ok)(l:List Sg)(a:∀x∈l,x.Ok):∀x∈(c.tt l).2,x.Ok:=by
 unfold Cn.tt;split
 ·exact Dz a (h.EX Bk _)
 exact a
theorem Cj (h:c.Ok){now:Int}(a:aI now):∀x∈(c.push now).2,x.Ok:=by
 unfold Cn.push;split
 ·exact all_nil
 dsimp only;split
 ·exact(h.qb a).F5 _ (h.FY a)
 exact h.F5 _ all_nil
theorem Dk {P:Sg->Prop}{y:Sg}(hy:P y):∀x∈[y],P x:=fun x a=>by rw[Ly.1 a];exact hy
theorem Fj (h:c.Ok){now:Int}(a:aI now){s:Sg}(hs:s.Ok){off:Int}(b: -2147483648<=off/\off<=2147483647):∀x∈(c.process now s off).2,x.Ok:=by
 have d:=bP s.ak c.cf.ki;unfold Cn.process;dsimp only;split
 ·rename_i h2;have e:=h.tr2 O;split
  ·exact Dk (h.EN hs.ak)
  have f:=h.step a e 4;split
  ·exact((f.step a (by rw[Cn.Dc];exact e) 5).tail a hs b d.2).Cj a
  exact(f.tail a hs b d.2).Cj a
 split
 ·exact h.i2.Cj a
 exact(h.tail a hs b d.2).Cj a
theorem FZ (h:c.Ok){now:Int}(d:aI now){s:Sg}(hs:s.Ok):∀x∈(c.stray now s).2,x.Ok:=by
 have e:=bP s.ak c.cf.ki;unfold Cn.stray;dsimp only
 have h1:Cn.Ok (if bf c.st=true/\s.has=true/\s.syn=false/\c.gi<=aE s.ak c.cf.ki/\aE s.ak c.cf.ki<=c.next then c.i1 now s (aE s.ak c.cf.ki)else c):=by
  split
  ·exact(h.i1 d hs O).1
  exact h
 generalize (if bf c.st=true/\s.has=true/\s.syn=false/\c.gi<=aE s.ak c.cf.ki/\aE s.ak c.cf.ki<=c.next then c.i1 now s (aE s.ak c.cf.ki)else c)=a at h1|-
 have h2:Cn.Ok (if a.st=9/\s.fin=true then { a with per:=.Ck now 60 }else a):=by
  split
  ·exact { h1 with per:=Al.Cz d D D }
  exact h1
 generalize (if a.st=9/\s.fin=true then { a with per:=.Ck now 60 }else a)=b at h2|-;split
 ·exact h2.i2.Cj d
 exact h2.Cj d
theorem G0 (h:c.Ok){now:Int}(b:aI now){s:Sg}(hs:s.Ok):∀x∈(c.Ct now s).2,x.Ok:=by
 unfold Cn.Ct;split
 ·split
  ·exact all_nil
  exact Dk (h.EN hs.ak)
 split
 ·exact all_nil
 split
 ·exact all_nil
 rename_i hy;have hy:s.syn=true:=Jt
 have a:=(h.meet hs hy).DM;dsimp only;split
 ·exact Dk (a.step b J4 2).E8
 exact(EJ (step ((a.DH (a.sc.i1 1 [])).DY (Tm.Ce a.tm now 1)) b J4 3) dx).i2.Cj b
theorem Fm (h:c.Ok){now:Int}(a:aI now){s:Sg}(hs:s.Ok):∀x∈(c.receive now s).2,x.Ok:=by
 have b:=bP s.sq (aw c.A2 1);unfold Cn.receive;split
 ·exact all_nil
 rename_i h0;split
 ·exact all_nil
 split
 ·exact h.G0 a hs
 unfold Cn.Cw;dsimp only;split
 ·exact all_nil
 split
 ·exact all_nil
 split
 ·exact h.FZ a hs
 split
 ·exact h.i2.Cj a
 split
 ·exact all_nil
 exact h.Fj a hs b
theorem FK (h:c.Ok):∀x∈c.expire.2,x.Ok:=by
 have a:=h.go;unfold Cn.expire;split
 ·exact all_nil
 split
 ·exact all_nil
 exact Dk (h.Ec O O)
theorem Ez (h:c.Ok){now:Int}(b:aI now)(l:List Sg)(d:∀x∈l,x.Ok):∀x∈(c.sg now l).2,x.Ok:=by
 unfold Cn.sg;dsimp only;intro x a
 rcases LH.1 a with a | a
 ·exact d x a
 revert a
 split
 ·exact h.i2.Cj b x
 exact h.Cj b x
theorem Gs (h:c.Ok){now:Int}(a:aI now):∀x∈(c.tick now).2,x.Ok:=by
 unfold Cn.tick;split
 ·exact all_nil
 rename_i h0;have d:=h.tr2 h0;split
 ·exact all_nil
 split
 ·dsimp only;split
  ·exact all_nil
  rename_i e
  have b:0<=c.tm.rl.kf.value/\c.tm.rl.kf.value<=1000:=by
   have h1:=c.tm.rl.kf.Dy;have h2:(0:Int)<=c.tm.rl.kf.base*2 ^ c.tm.rl.kf.backs.toNat:=MV O (Ni D);unfold Tm.value;omega
  have he:Cn.Ok { c with tries:=c.tries+1,tm:=c.tm.rl.kf,dl:=.Ck now c.tm.rl.kf.value } :=
   { h with tr:=by have:=h.tr;dsimp only;omega,tr2:=fun _=>by dsimp only;omega,tm:=Tm.D4 (Tm.A3 h.tm),dl:=Al.Cz a b.1 b.2 }
  split
  ·exact he.expire.Ez a _ he.FK
  exact Dk he.E8
 exact h.Ez a _ all_nil
theorem Gt (h:c.Ok){now:Int}(a:aI now)(s:List UInt8)(b:c.last+s.length<=1073741824):∀x∈(c.send now s).2,x.Ok:=by
 unfold Cn.send;split
 ·exact all_nil
 refine Cj (c:={ c with held:=c.held++s.take (c.pd s).toNat }) { h with b1:= ?_ } a;unfold Cn.last at b|-;dsimp only;rw[Lc,Lg];omega
theorem Gu (h:c.Ok){now:Int}(a:aI now)(n:Int):∀x∈(c.recv now n).2,x.Ok:=by
 unfold Cn.recv;split
 ·exact all_nil
 dsimp only;split
 ·exact all_nil
 split
 ·exact all_nil
 exact(h.take n).i2.Cj a
theorem G2 (h:c.Ok){now:Int}(a:aI now):∀x∈(c.close now).2,x.Ok:=by
 have hs:Cn.Ok { c with shut:=true }:={ h with };unfold Cn.close;split
 ·exact all_nil
 rename_i b;have h0:c.st≠0:=fun e=>b (.inl e);dsimp only;split
 ·exact all_nil
 split
 ·exact hs.Cj a
 exact(hs.step a (h.tr2 h0) _).Cj a
end Cn.Ok
end
end Go.Proofs.YtcmncipikdpnbaaGreatDoor
