import Derived.Test.YtcmncipikdpnbaaGreatDoorUb6
import Derived.Test.YtcmncipikdpnbaaGreatDoorUb7
namespace Go.Proofs.YtcmncipikdpnbaaGreatDoor
section
theorem sI {s e n:Int}(h:gb s e=some n):0<=n/\n<=9:=by
 unfold gb at h
 (repeat' split at h) <;> first | (cases h;done) | (injection h with h;subst h;decide)
theorem Co:(0:Int)<=0/\(0:Int)<=2:=by decide
theorem DR:(0:Int)<=1/\(1:Int)<=2:=by decide
theorem DL:(0:Int)<=2/\(2:Int)<=2:=by decide
def Al.Ok (a:Al):Prop:=aI a.since/\0<=a.ticks/\a.ticks<=1000
theorem eD:eG.Ok:=⟨⟨D,D⟩,D,D⟩
theorem Al.zv {now t:Int}(h:aI now)(h1:0<=t)(h2:t<=1000):(Al.wA now t).Ok:=⟨h,h1,h2⟩
structure Cn.Ok (c:Cn):Prop where
 sc:c.sc.Ok
 bx:c.bx.Ok
 F2:∀i,c.bx.has i->i<2147487744
 tm:c.tm.Fit
 cg:c.cg.Ok
 b0:0<=c.base
 b1:c.last<=1073741824
 lim:0<=c.limit/\c.limit<=1099511627776
 AC:0<=c.largest/\c.largest<=65535
 gi:28<=c.gi/\c.gi<=1000
 mark:0<=c.mark/\c.mark<=1099511627776
 ann:0<=c.ann/\c.ann<=2199023255552
 room:1<=c.room/\c.room<=8192
 ox: -1099511627776<=c.ox/\c.ox<=1099511627776
 cf:c.cf.okB=true
 st:0<=c.st/\c.st<=9
 pend:0<=c.pend/\c.pend<=2
 pd:c.pd.Ok
 dl:c.dl.Ok
 per:c.per.Ok
 tr:0<=c.tries/\c.tries<=13
 tr2:c.st≠0->c.tries<=12
 ring:(c.bx.ring.length:Int)=c.room
 FH:c.ann<=c.most
namespace Cn.Ok
variable {c : Cn}
theorem hlen (h:c.Ok):(c.held.length:Int)<=1073741824:=by have:=h.b0;have:=h.b1;unfold Cn.last at this;omega
theorem E6 (h:c.Ok):c.base<=1073741824:=by have:=h.b0;have:=h.b1;unfold Cn.last at this;omega
theorem GO (h:c.Ok):c.bx.nx<=2147487744:=by
 by_cases hz:c.bx.nx<=0
 ·omega
 have:=h.F2 (c.bx.nx-1) (.inl O);omega
theorem I4 (h:c.Ok):c.bx.rd<=2147487744:=Lz h.bx.xK h.GO
theorem most (h:c.Ok):0<=c.most/\c.most<=2147495936:=by
 have:=h.I4;have:=h.bx.Do;have:=h.bx.most;unfold Cn.most;omega
theorem fM (h:c.Ok):0<=c.fM/\c.fM<=c.next/\c.next<=1099511627776:=⟨h.sc.u0,h.sc.un,h.sc.n40⟩
theorem expected (h:c.Ok):0<=c.expected/\c.expected<=2147487745:=by
 have:=h.GO;have:=h.bx.Do;have:=h.bx.xK;unfold Cn.expected;split <;> omega
theorem raised (h:c.Ok)(m:Int):0<=c.raised m/\c.raised m<=2199023255552/\c.bx.nx<=c.raised m/\c.raised m<=c.most:=by
 have:=h.GO;have:=h.bx.Do;have:=h.bx.xK;have:=h.most;have:=h.ann;have:=h.bx.Ck;have:=h.FH;have:c.bx.nx<=c.most:=by unfold Cn.most;omega
 unfold Cn.raised;split <;> omega
theorem GP (h:c.Ok):(1<=c.cf.fp/\c.cf.fp<=65535)/\(1<=c.cf.tp/\c.cf.tp<=65535)/\(0<=c.cf.kc/\c.cf.kc<=4294967295)/\(28<=c.cf.gi/\c.cf.gi<=1000)/\(1<=c.cf.room/\c.cf.room<=8192)/\1<=c.cf.keep/\c.cf.keep<=8192:=by
 have:=h.cf;unfold Cf.okB at this;exact LJ this
theorem iq (h:c.Ok):0<=c.iq/\c.iq<=1073741824:=by
 have:=h.fM;have:=h.b1;unfold Cn.iq;omega
theorem step (h:c.Ok){now:Int}(d:aI now)(a:c.tries<=12)(e:Int):(c.step now e).Ok:=by
 unfold Cn.step;split
 ·exact h
 rename_i n f;have b:0<=n/\n<=9:=sI f;split
 ·rename_i g;exact { h with per:=Al.zv d D D,st:=b,tr2:=fun _=>a }
 exact { h with st:=b,tr2:=fun _=>a }
theorem finish (h:c.Ok){now:Int}(a:aI now)(b:c.tries<=12)(e d:Int):(c.finish now e d).Ok:=by
 have:=h.step a b e;exact { this with }
theorem gB (h:c.Ok):c.gB.Ok:={ h with pend:=DL }
theorem rl (h:c.Ok){now:Int}(a:aI now):(c.rl now).Ok:=by
 unfold Cn.rl;split
 ·exact { h with pend:=DL }
 exact { h with pend:=DR,pd:=Al.zv a D D }
theorem qG (h:c.Ok)(b:Bool):(c.qG b).Ok:=by
 have:=h.raised c.gi;unfold Cn.qG;split
 ·exact { h with pend:=Co }
 exact { h with pend:=Co,ann:=⟨this.1,this.2.1⟩,FH:=this.2.2.2 }
theorem v6 (h:c.Ok):c.v6.Ok:=by
 have d:=h.room;have a:0<=c.room/\c.room<=2199023255552:=O
 have b:c.room<=c.most:=by have:=h.ring;have:=h.bx.Do;unfold Cn.most;omega
 unfold Cn.v6;split
 ·exact { h with ann:=a,FH:=b }
 exact { h with pend:=Co,ann:=a,FH:=b }
theorem qn (h:c.Ok):c.qn.Ok:=h.qG false
theorem D7 (h:c.Ok){s:Sc}(hs:s.Ok):Cn.Ok { c with sc:=s }:={ h with sc:=hs }
theorem Dk (h:c.Ok){s:Tm}(hs:s.Fit):Cn.Ok { c with tm:=s }:={ h with tm:=hs }
theorem G6 (h:c.Ok){s:Cg}(hs:s.Ok):Cn.Ok { c with cg:=s }:={ h with cg:=hs }
theorem Eo (h:c.Ok){s:Al}(hs:s.Ok):Cn.Ok { c with dl:=s }:={ h with dl:=hs }
theorem nY (h:c.Ok)(n:Int):(c.nY n).Ok:=h.qn.D7 (h.sc.sent _)
theorem out (h:c.Ok){now:Int}(a:aI now)(n:Int):(c.out now n).Ok:=(h.nY n).Dk (Tm.EO h.tm now _ a)
theorem n7 (n:Nat):∀{c:Cn} (_:c.Ok) (l:List Sg),(n7 n c l).1.Ok:=by
 induction n with
 | zero=>exact fun h l=>h
 | succ n a =>
  intro c h l;unfold Go.Proofs.YtcmncipikdpnbaaGreatDoor.n7;split
  ·split
   ·exact h
   rename_i x _ _;split
   ·exact a ((h.qn.D7 (h.sc.ret _)).Dk (Tm.tv h.tm)) _
   exact h.qn.D7 (h.sc.ret _)
  exact h
theorem kr {now:Int}(a:aI now)(n:Nat):∀{c:Cn} (_:c.Ok) (l:List Sg),(kr now n c l).1.Ok:=by
 induction n with
 | zero=>exact fun h l=>h
 | succ n b =>
  intro c h l;unfold Go.Proofs.YtcmncipikdpnbaaGreatDoor.kr;split
  ·exact b (h.out a _) _
  exact h
theorem ug {now:Int}(a:aI now)(h:c.Ok)(l:List Sg):(ug now c l).1.Ok:=by
 unfold Go.Proofs.YtcmncipikdpnbaaGreatDoor.ug;split
 ·exact h.out a _
 exact h
theorem o6 {now:Int}(a:aI now)(h:c.Ok):(c.o6 now).1.Ok:=by
 unfold Cn.o6;exact ug a (kr a _ (n7 _ h _) _) _
theorem qD (h:c.Ok)(l:List Sg):(c.qD l).1.Ok:=by
 unfold Cn.qD;split
 ·exact h.qG false
 exact h
theorem value (_h:c.Ok):0<=c.tm.value/\c.tm.value<=1000:=by
 have h1:=c.tm.CM;have h2:(0:Int)<=c.tm.base*2 ^ c.tm.backs.toNat:=MS O (Nf D);unfold Tm.value;omega
theorem lp (h:c.Ok){now:Int}(a:aI now):(c.lp now).Ok:=by
 unfold Cn.lp;split
 ·exact h.Eo eD
 split
 ·exact h
 exact h.Eo (Al.zv a h.value.1 h.value.2)
theorem push (h:c.Ok){now:Int}(a:aI now):(c.push now).1.Ok:=by
 unfold Cn.push;split
 ·exact h
 dsimp only;split
 ·exact((h.o6 a).qD _).lp a
 exact(h.qD _).lp a
theorem announce (h:c.Ok){a w:Int}(ha:a<=1099511562240)(hw:0<=w/\w<=65535):(c.announce a w).Ok:=by
 have:=h.lim;have:=h.AC;unfold Cn.announce;exact { h with lim:=II,AC:=II}
theorem resize (h:c.Ok){m:Int}(hm:m=0\/28<=m):(c.resize m).Ok:=by
 have b:=h.gi;have a:28<=min c.gi (if m=0 then 28 else m)/\min c.gi (if m=0 then 28 else m)<=1000:=Jv
 unfold Cn.resize;exact { h with gi:=a,cg:=xO a.1 O }
theorem meet (h:c.Ok){s:Sg}(hs:s.Ok)(hy:s.syn=true):(c.meet s).Ok:=by
 unfold Cn.meet;refine resize (announce ({ h with }:Cn.Ok { c with tq:=s.sq,iu:=s.iu }) D hs.win) ?_;have:=hs.DW hy;omega
theorem drop (h:c.Ok)(u:Int):(c.drop u).Ok:=by
 have h0:=h.b0;have h1:=h.b1;have a:0<=dL c.held c.base u/\dL c.held c.base u<=c.held.length:=by unfold dL;omega
 unfold Cn.drop;refine { h with b0:=II,b1:= ?_ };unfold Cn.last at h1|-;dsimp only;rw[Lq];omega
theorem report (h:c.Ok)(a:Int)(bl:List Sp):(c.report a bl).Ok:=h.D7 (h.sc.go _ _)
theorem flight (h:c.Ok):0<=c.flight/\c.flight<=1099511627776:=by
 have:=h.fM;unfold Cn.flight;unfold Cn.fM Cn.next at this;omega
theorem D9 (h:c.Ok):Cn.Ok { c with tries:=0 }:={ h with tr:=⟨L9 0,(D:(0:Int)<=13)⟩,tr2:=fun _=>(D:(0:Int)<=12) }
theorem Gs (h:c.Ok):aI c.next:=by have:=h.fM;unfold aI;omega
theorem go (h:c.Ok){now:Int}(l:aI now){s:Sg}(hs:s.Ok){ack:Int}(ha:ack<=1099511562240):(c.go now s ack).Ok/\(c.go now s ack).tries=0:=by
 unfold Cn.go;split
 ·exact⟨h.D9,Z⟩
 dsimp only;have g:=h.D9.report ack s.bl
 have h1:Cn.Ok (if c.fM<ack then(if 0<ack-max c.fM 1 then({ ({ c with tries:=0 }:Cn).report ack s.bl with dl:=eG,tm:=(({ c with tries:=0 }:Cn).report ack s.bl).tm.go now ack,cg:=(({ c with tries:=0 }:Cn).report ack s.bl).cg.go (ack-max c.fM 1) ack }:Cn)else { ({ c with tries:=0 }:Cn).report ack s.bl with dl:=eG,tm:=(({ c with tries:=0 }:Cn).report ack s.bl).tm.go now ack }).drop ack else({ c with tries:=0 }:Cn).report ack s.bl)/\(if c.fM<ack then(if 0<ack-max c.fM 1 then({ ({ c with tries:=0 }:Cn).report ack s.bl with dl:=eG,tm:=(({ c with tries:=0 }:Cn).report ack s.bl).tm.go now ack,cg:=(({ c with tries:=0 }:Cn).report ack s.bl).cg.go (ack-max c.fM 1) ack }:Cn)else { ({ c with tries:=0 }:Cn).report ack s.bl with dl:=eG,tm:=(({ c with tries:=0 }:Cn).report ack s.bl).tm.go now ack }).drop ack else({ c with tries:=0 }:Cn).report ack s.bl).tries=0:=by
  have k:=(g.Eo eD).Dk (Tm.v8 g.tm now ack);split
  ·split
   ·exact⟨(k.G6 (Cg.Du g.cg _ _)).drop _,Z⟩
   exact⟨k.drop _,Z⟩
  exact⟨g,Z⟩
 generalize (if c.fM<ack then(if 0<ack-max c.fM 1 then({ ({ c with tries:=0 }:Cn).report ack s.bl with dl:=eG,tm:=(({ c with tries:=0 }:Cn).report ack s.bl).tm.go now ack,cg:=(({ c with tries:=0 }:Cn).report ack s.bl).cg.go (ack-max c.fM 1) ack }:Cn)else { ({ c with tries:=0 }:Cn).report ack s.bl with dl:=eG,tm:=(({ c with tries:=0 }:Cn).report ack s.bl).tm.go now ack }).drop ack else({ c with tries:=0 }:Cn).report ack s.bl)=a at h1|-;obtain⟨h1,i⟩:=h1;have h2:=h1.announce ha hs.win;have e:(a.announce ack s.win).tries=0:=i;generalize a.announce ack s.win=b at h2 e|-
 have f:Cn.Ok (if 0<c.Ct ack s.bl/\b.mark<=ack/\b.sc.lost b.gi≠[]then { b with cg:=b.cg.lost c.flight b.next }else b)/\(if 0<c.Ct ack s.bl/\b.mark<=ack/\b.sc.lost b.gi≠[]then { b with cg:=b.cg.lost c.flight b.next }else b).tries=0:=by
  split
  ·exact⟨h2.G6 (Cg.Fc h2.cg _ h2.Gs),e⟩
  exact⟨h2,e⟩
 generalize (if 0<c.Ct ack s.bl/\b.mark<=ack/\b.sc.lost b.gi≠[]then { b with cg:=b.cg.lost c.flight b.next }else b)=d at f|-;obtain⟨f,j⟩:=f;split
 ·refine⟨f.step l O _,?_⟩;unfold Cn.step;split
  ·exact j
  split <;> exact j
 exact⟨f,j⟩
theorem insert (h:c.Ok){off:Int}{s:List UInt8}(ho:off<=2147483647)(hs:s.length<=1024):(c.insert off s).Ok:=by
 have g:(n8 c.ended c.ox off s).length<=1024:=by
  unfold n8;rw[Lq];split
  ·rw[Le];omega
  omega
 have a:(c.uf off s).Ok/\(∀i,(c.uf off s).has i->i<2147487744)/\(c.uf off s).rd=c.bx.rd/\(c.uf off s).ring.length=c.bx.ring.length:=by
  unfold Cn.uf;split
  ·exact⟨h.bx,h.F2,Z,Z⟩
  obtain⟨p1,b,d,-,e⟩:=Bx.Dd h.bx (n8 c.ended c.ox off s) (off:=max off 0) O O;refine⟨p1,fun i hi=> ?_,b,d⟩
  rcases(e i).1 hi with hi | hi
  ·exact h.F2 i hi
  omega
 have f:(c.insert off s).most=c.most:=by unfold Cn.most Cn.insert;dsimp only;rw[a.2.2.1,a.2.2.2]
 exact { h with bx:=a.1,F2:=a.2.1,ring:=by unfold Cn.insert;dsimp only;rw[a.2.2.2];exact h.ring,FH:=by rw[f];exact h.FH }
theorem store (h:c.Ok){now:Int}(b:aI now){s:Sg}(hs:s.Ok){off:Int}(ho:off<=2147483647):(c.store now s off).Ok:=by
 have a:s.s.length<=1024:=by have:=hs.Dj;omega
 unfold Cn.store;split
 ·exact h
 split
 ·split
  ·exact(h.insert ho a).rl b
  exact(h.insert ho a).gB
 exact h.gB
theorem qb (h:c.Ok){now:Int}(e:aI now){s:Sg}(hs:s.Ok){off:Int}(ho: -2147483648<=off/\off<=2147483647)(b:c.tries<=12):(c.qb now s off).Ok:=by
 have f:s.s.length<=1024:=by have:=hs.Dj;omega
 unfold Cn.qb;dsimp only
 have h1:Cn.Ok (if s.fin=true/\aV c.st=true/\c.ended=false/\c.bx.nx<=off+s.s.length then { c with ended:=true,ox:=off+s.s.length }else c)/\(if s.fin=true/\aV c.st=true/\c.ended=false/\c.bx.nx<=off+s.s.length then { c with ended:=true,ox:=off+s.s.length }else c).tries<=12:=by
  split
  ·exact⟨{ h with ox:=II},b⟩
  exact⟨h,b⟩
 generalize (if s.fin=true/\aV c.st=true/\c.ended=false/\c.bx.nx<=off+s.s.length then { c with ended:=true,ox:=off+s.s.length }else c)=d at h1|-;obtain⟨h1,a⟩:=h1;split
 ·exact(step ({ h1 with }:Cn.Ok { d with over:=true }) e a 6).gB
 exact h1
end Cn.Ok
end
section
theorem bP (a b:Int): -2147483648<=aE a b/\aE a b<=2147483647:=by unfold aE;omega
theorem fG (a n:Int):0<=aw a n/\aw a n<=4294967295:=by unfold aw;omega
theorem Cn.De (c:Cn)(now:Int)(s:Sg)(off:Int):(c.store now s off).tries=c.tries:=by
 unfold Cn.store;split
 ·rfl
 split
 ·split
  ·unfold Cn.rl;split <;> rfl
  rfl
 rfl
theorem Cn.A4 (c:Cn)(now e:Int):(c.step now e).tries=c.tries:=by
 unfold Cn.step;split
 ·rfl
 split <;> rfl
theorem vD {s:Sg}(hs:s.Ok):0<=aj s/\aj s<=1025:=by
 have h1:=hs.Dj;have h2:=hs.fl;have a:=hs.sS;unfold aj;by_cases hy:s.syn=true
 ·rw[a (.inl hy)]at *;have:¬s.fin=true:=fun b=>h2.1 ⟨hy,b⟩;rw[L7 hy,L5 this]
  simp
 rw[L5 hy];split <;> omega
namespace Cn.Ok
variable {c : Cn}
theorem tail (h:c.Ok){now:Int}(a:aI now){s:Sg}(hs:s.Ok){off ack:Int}(ho: -2147483648<=off/\off<=2147483647)(ha:ack<=2147483647) :
  (((c.go now s ack).store now s off).qb now s off).Ok:=by
 obtain⟨h1,h2⟩:=h.go a hs (ack:=ack) O;exact(h1.store a hs ho.2).qb a hs ho (by rw[Cn.De,h2];decide)
theorem process (h:c.Ok){now:Int}(a:aI now){s:Sg}(hs:s.Ok){off:Int}(ho: -2147483648<=off/\off<=2147483647):(c.process now s off).1.Ok:=by
 have b:=bP s.ak c.cf.kc;unfold Cn.process;dsimp only;split
 ·rename_i h2;have d:=h.tr2 O;split
  ·exact h
  have e:=h.step a d 4;split
  ·exact((e.step a (by rw[Cn.A4];exact d) 5).tail a hs ho b.2).push a
  exact(e.tail a hs ho b.2).push a
 split
 ·exact h.gB.push a
 exact(h.tail a hs ho b.2).push a
theorem stray (h:c.Ok){now:Int}(d:aI now){s:Sg}(hs:s.Ok):(c.stray now s).1.Ok:=by
 have e:=bP s.ak c.cf.kc;unfold Cn.stray;dsimp only
 have h1:Cn.Ok (if bU c.st=true/\s.has=true/\s.syn=false/\c.fM<=aE s.ak c.cf.kc/\aE s.ak c.cf.kc<=c.next then c.go now s (aE s.ak c.cf.kc)else c):=by
  split
  ·exact(h.go d hs O).1
  exact h
 generalize (if bU c.st=true/\s.has=true/\s.syn=false/\c.fM<=aE s.ak c.cf.kc/\aE s.ak c.cf.kc<=c.next then c.go now s (aE s.ak c.cf.kc)else c)=a at h1|-
 have h2:Cn.Ok (if a.st=9/\s.fin=true then { a with per:=.wA now 60 }else a):=by
  split
  ·exact { h1 with per:=Al.zv d D D }
  exact h1
 generalize (if a.st=9/\s.fin=true then { a with per:=.wA now 60 }else a)=b at h2|-;split
 ·exact h2.gB.push d
 exact h2.push d
theorem xs (h:c.Ok){now:Int}(a:aI now){s:Sg}(hs:s.Ok)(h0:c.st≠0):(c.xs now s).1.Ok:=by
 unfold Cn.xs;split
 ·split <;> exact h
 split
 ·exact h.finish a (h.tr2 h0) _ _
 split
 ·exact h
 rename_i hy;have hy:s.syn=true:=Jm
 have b:=(h.meet hs hy).D9;dsimp only;split
 ·exact(b.step a J0 2).v6
 exact(Eo (step ((b.D7 (b.sc.go 1 [])).Dk (Tm.v8 b.tm now 1)) a J0 3) eD).gB.push a
theorem ys (h:c.Ok){now:Int}(a:aI now){s:Sg}(hs:s.Ok)(h0:c.st≠0):(c.ys now s).1.Ok:=by
 have b:=bP s.sq (aw c.tq 1);unfold Cn.ys;dsimp only;split
 ·exact h.finish a (h.tr2 h0) _ _
 split
 ·exact h
 split
 ·exact h.stray a hs
 split
 ·exact h.gB.push a
 split
 ·exact h
 exact h.process a hs b
theorem receive (h:c.Ok){now:Int}(a:aI now){s:Sg}(hs:s.Ok):(c.receive now s).1.Ok:=by
 unfold Cn.receive;split
 ·exact h
 rename_i h0;split
 ·exact h
 split
 ·exact h.xs a hs h0
 exact h.ys a hs h0
theorem expire (h:c.Ok):c.expire.1.Ok:=by
 have a:=h.fM;unfold Cn.expire;split
 ·exact { h with cg:=Cg.F1 h.cg _,sc:=h.sc.timeout,mark:=II}
 split
 ·exact h
 exact h.nY _
theorem oi (h:c.Ok){now:Int}(a:aI now)(l:List Sg):(c.oi now l).1.Ok:=by
 unfold Cn.oi;dsimp only;split
 ·exact h.gB.push a
 exact h.push a
theorem tick (h:c.Ok){now:Int}(a:aI now):(c.tick now).1.Ok:=by
 unfold Cn.tick;split
 ·exact h
 rename_i h0;have b:=h.tr2 h0;split
 ·exact h.finish a b _ _
 split
 ·dsimp only;split
  ·rename_i g
   have h1:(Cn.step { c with tries:=c.tries+1 } now 9).st=0:=by
    unfold Cn.step;have:gb c.st 9=some 0:=by unfold gb;rw[L5 h0,L7 (.inr Z)]
    dsimp only;rw[this];rfl
   have h2:∀d:Cn,d.Ok->d.st=0->d.tries=c.tries->Cn.Ok { d with tries:=c.tries+1,err:=182 }:=fun d e hs i=>{ e with tr:=by have:=e.tr;dsimp only;omega,tr2:=fun h=>(h hs).elim }
   have j:Cn.finish { c with tries:=c.tries+1 } now 9 182={ c.step now 9 with tries:=c.tries+1,err:=182 }:=by
    unfold Cn.finish Cn.step;dsimp only
    cases gb c.st 9 with
    | none=>rfl
    | some n=>dsimp only;split <;> rfl
   rw[j];refine h2 _ (h.step a b 9) ?_ (Cn.A4 _ _ _);have:gb c.st 9=some 0:=by unfold gb;rw[L5 h0,L7 (.inr Z)]
   unfold Cn.step;rw[this];rfl
  rename_i g;have k:=h.tm.1
  have f:0<=c.tm.og.ka.value/\c.tm.og.ka.value<=1000:=by
   have h1:=c.tm.og.ka.CM;have h2:(0:Int)<=c.tm.og.ka.base*2 ^ c.tm.og.ka.backs.toNat:=MS O (Nf D);unfold Tm.value;omega
  have he:Cn.Ok { c with tries:=c.tries+1,tm:=c.tm.og.ka,dl:=.wA now c.tm.og.ka.value } :=
   { h with tr:=by have:=h.tr;dsimp only;omega,tr2:=fun _=>by dsimp only;omega,tm:=Tm.zw (Tm.tv h.tm),dl:=Al.zv a f.1 f.2 }
  split
  ·exact he.expire.oi a _
  exact he.v6
 exact h.oi a _
theorem send (h:c.Ok){now:Int}(a:aI now)(s:List UInt8)(b:c.last+s.length<=1073741824):(c.send now s).1.Ok:=by
 unfold Cn.send;split
 ·exact h
 refine push (c:={ c with held:=c.held++s.take (c.nX s).toNat }) { h with b1:= ?_ } a;unfold Cn.last at b|-;dsimp only;rw[La,Le];omega
theorem take (h:c.Ok)(n:Int):Cn.Ok { c with bx:=c.bx.take n }:=by
 obtain⟨d,e,a,b⟩:=c.bx.D6 n
 have h1:(c.bx.take n).rd<=2147487744/\c.bx.rd<=(c.bx.take n).rd:=by
  have:=h.GO;have:=h.bx.xK;unfold Bx.take;split
  ·omega
  dsimp only;omega
 have:=h.bx.most;exact { h with bx:=Bx.Ok.take h.bx n O,F2:=fun i hi=>h.F2 i ((b i).1 hi),ring:=by dsimp only;rw[a];exact h.ring,FH:=by have:=h.FH;unfold Cn.most at this|-;dsimp only;rw[a];omega }
theorem recv (h:c.Ok){now:Int}(a:aI now)(n:Int):(c.recv now n).1.Ok:=by
 unfold Cn.recv;split
 ·exact h
 dsimp only;split
 ·exact h.take n
 split
 ·exact h.take n
 exact(h.take n).gB.push a
theorem close (h:c.Ok){now:Int}(a:aI now):(c.close now).1.Ok:=by
 have hs:Cn.Ok { c with shut:=true }:={ h with };unfold Cn.close;split
 ·exact h
 rename_i b;have h0:c.st≠0:=fun e=>b (.inl e);dsimp only;split
 ·exact hs.finish a (h.tr2 h0) _ _
 split
 ·exact hs.push a
 exact(hs.step a (h.tr2 h0) _).push a
theorem EP (h:c.Ok):Cn.Ok { c with sc:=c.sc.timeout,mark:=c.next }:=by
 have a:=h.fM;exact { h with sc:=h.sc.timeout,mark:=⟨II,a.2.2⟩ }
theorem tl (h:c.Ok){now:Int}(a:aI now)(m:Int):(c.tl now m).1.Ok:=by
 have b:=h.gi;unfold Cn.tl;split
 ·exact h
 rename_i d;have hs:Cn.Ok { c with gi:=m,cg:=c.cg.tl m }:={ h with gi:=II,cg:=Cg.Eu h.cg m };dsimp only;split
 ·split
  ·exact hs.EP.push a
  exact hs.push a
 exact hs
end Cn.Ok
theorem gK {now:Int}(a:aI now){c:Cf}(b:c.okB=true):(db now c).Ok:=by
 have d:=b;unfold Cf.okB at d;obtain⟨h1,h2,g,e,f,h⟩:=LJ d
 exact {
  sc:=Bc.sent 1,bx:=xg _ O O,F2:=fun i hi=>by
   rcases hi with hi | hi
   ·exact absurd hi.2 (by show ¬i<0;omega)
   ·exact(a8 hi).elim,
  tm:=Tm.EO AX now 1 a,cg:=xO e.1 O,b0:=(D:(0:Int)<=1),b1:=(D:(1:Int)+(([]:List UInt8).length:Int)<=1073741824),lim:=(D:(0:Int)<=0/\(0:Int)<=1099511627776),AC:=(D:(0:Int)<=0/\(0:Int)<=65535),gi:=e,mark:=(D:(0:Int)<=0/\(0:Int)<=1099511627776),ann:=by show 0<=c.room/\c.room<=2199023255552;omega,room:=f,ox:=(D:(-1099511627776:Int)<=0/\(0:Int)<=1099511627776),cf:=b,st:=(D:(0:Int)<=0/\(0:Int)<=9),pend:=Co,pd:=eD,dl:=Al.zv a D D,per:=eD,tr:=(D:(0:Int)<=0/\(0:Int)<=13),tr2:=fun _=>(D:(0:Int)<=12),ring:=by show((List.replicate c.room.toNat (0:UInt8)).length:Int)=c.room;rw[Mt];omega,FH:=by show c.room<=(0:Int)+(List.replicate c.room.toNat (0:UInt8)).length;rw[Mt];omega }
end
section
structure Body (g:Sg):Prop where
 qa:g.qa=false
 bl:g.bl=[]
 win:g.win=0
 fl:g.syn=false\/g.fin=false
 gi:g.syn=false->g.gi=0/\g.iu=false
 DW:g.syn=true->g.gi=0\/(28<=g.gi/\g.gi<=1024)
 sS:g.syn=true->g.s=[]
 Dj:g.s.length<=1000
theorem CV:Body dH:=⟨Z,Z,Z,.inl Z,fun _=>⟨Z,Z⟩,(fun h=>nomatch h),fun _=>rfl,D⟩
theorem sJ {e:Int}{bl:List Sp}(h:aJ e bl=true){x:Sp}(hx:x∈bl):x.1<x.2:=by
 induction bl generalizing e with
 | nil=>cases hx
 | cons y t a =>
  rw[aB]at h
  rcases Mi.1 hx with rfl | hx
  ·exact h.1.2.2.1
  exact a h.2 hx
theorem xm {b:Bx}(ok:b.Ok){x:Sp}(hx:x∈b.rep):b.nx<x.1/\x.1<x.2/\x.2<=b.rd+b.ring.length:=by
 have a:=Bx.G4 hx;have d:=sJ ok.canon a;have e:=ok.mem x.1 ⟨x,a,O⟩;have f:=ok.mem (x.2-1) ⟨x,a,O⟩;omega
namespace Cn.Ok
variable {c : Cn}
theorem FI (h:c.Ok){g:Sg}(b:Body g)(off:Int)(ha:g.ak=0):(c.address g off).Ok:=by
 have f:=h.GP;have j:=h.room;have e:=b.fl;have d:=b.qa
 have hw:0<=(if g.syn=true then c.room else g.win)/\(if g.syn=true then c.room else g.win)<=65535:=by
  have:=b.win;split <;> omega
 have a:(c.address g off).bl=[]:=b.bl;refine { fp:=f.1,tp:=f.2.1,sq:=fG _ _,ak:=by show 0<=g.ak/\g.ak<=4294967295;omega,has:=fun _=>ha,win:=hw,fl:= ?_,gi:=b.gi,DW:=b.DW,EL:=by rw[a];decide,Fr:=by rw[a];intro h;exact absurd h D,blk:=by(rw[a];intro x i;exact(nomatch i)),sS:= ?_,Dj:= ?_ }
 ·show ¬(g.syn=true/\g.fin=true)/\¬(g.syn=true/\g.qa=true)/\¬(g.fin=true/\g.qa=true);rw[d];refine⟨?_,FE,FE⟩
  rcases e with e | e <;> rw[e] <;> simp
 ·show g.syn=true\/g.qa=true->g.s=[];rintro (h | h)
  ·exact b.sS h
  rw[d]at h;cases h
 rw[a];have:=b.Dj;show(g.s.length:Int)<=1024-8*(0:Nat);omega
theorem EG (h:c.Ok){g:Sg}(d:Body g)(off:Int):(c.qE g off).Ok:=by
 have j:=h.GP;have o:=h.room;have e:=d.fl;have i:=d.qa;have l:=h.raised c.gi;have a:=d.bl;have m:=h.ring;have p:=h.bx.Do;have q:=h.bx.xK;unfold Cn.qE;split
 ·rename_i hy;refine { fp:=j.1,tp:=j.2.1,sq:=fG _ _,ak:=fG _ _,has:=(fun h=>nomatch h),win:= ?_,fl:= ?_,gi:=d.gi,DW:=d.DW,EL:= ?_,Fr:=fun _=>rfl,blk:= ?_,sS:= ?_,Dj:= ?_ }
  ·show 0<=(if g.syn=true then c.room else g.win)/\(if g.syn=true then c.room else g.win)<=65535;rw[L7 hy];omega
  ·show ¬(g.syn=true/\g.fin=true)/\¬(g.syn=true/\g.qa=true)/\¬(g.fin=true/\g.qa=true);rw[i];refine⟨?_,FE,FE⟩
   rcases e with e | e <;> rw[e] <;> simp
  ·show g.bl.length<=3;rw[a];decide
  ·show ∀x∈g.bl,_;rw[a];intro x f;exact(nomatch f)
  ·show g.syn=true\/g.qa=true->g.s=[];exact fun _=>d.sS hy
  show(g.s.length:Int)<=1024-8*g.bl.length;rw[a,d.sS hy]
  decide
 rename_i hy
 have n:∀x∈(if g.s=[]/\c.iu=true then g.bl++c.bx.rep.map (fun b=>(c.number b.1,c.number b.2))else g.bl),(0<=x.1/\x.1<=4294967295)/\(0<=x.2/\x.2<=4294967295)/\x.1≠x.2:=by
  rw[a];split
  ·intro x f;rw[LD]at f;obtain⟨y,hy,rfl⟩:=Md.1 f;have:=xm h.bx hy;refine⟨fG _ _,fG _ _,?_⟩;show aw c.tq (y.1+1)≠aw c.tq (y.2+1);unfold aw;omega
  intro x f;exact(nomatch f)
 have k:(if g.s=[]/\c.iu=true then g.bl++c.bx.rep.map (fun b=>(c.number b.1,c.number b.2))else g.bl).length<=3/\(g.s.length:Int)<=1024-8*(if g.s=[]/\c.iu=true then g.bl++c.bx.rep.map (fun b=>(c.number b.1,c.number b.2))else g.bl).length:=by
  have:=d.Dj;rw[a];split
  ·rename_i f;rw[LD,LI,Bx.Cs,f.1];simp only[M1];omega
  simp only[M1];omega
 refine { fp:=j.1,tp:=j.2.1,sq:=fG _ _,ak:=fG _ _,has:=(fun h=>nomatch h),win:= ?_,fl:= ?_,gi:=d.gi,DW:=d.DW,EL:=k.1,Fr:=fun _=>rfl,blk:=n,sS:= ?_,Dj:=k.2 }
 ·show 0<=c.raised c.gi-c.bx.nx/\c.raised c.gi-c.bx.nx<=65535;have:=l.2.2;unfold Cn.most at this;omega
 ·show ¬(g.syn=true/\g.fin=true)/\¬(g.syn=true/\g.qa=true)/\¬(g.fin=true/\g.qa=true);rw[i];refine⟨?_,FE,FE⟩
  rcases e with e | e <;> rw[e] <;> simp
 show g.syn=true\/g.qa=true->g.s=[];rintro (h | h)
 ·exact absurd h hy
 rw[i]at h;cases h
theorem Ew (h:c.Ok){n:Int}(b:0<=n/\n<=4294967295):(c.qH n).Ok:=by
 have a:=h.GP;exact { fp:=a.1,tp:=a.2.1,sq:=b,ak:=(D:(0:Int)<=0/\(0:Int)<=4294967295),has:=fun _=>rfl,win:=(D:(0:Int)<=0/\(0:Int)<=65535),fl:=⟨(fun h=>nomatch h.1),(fun h=>nomatch h.1),(fun h=>nomatch h.1)⟩,gi:=fun _=>⟨Z,Z⟩,DW:=(fun h=>nomatch h),EL:=(D:([]:List Sp).length<=3),Fr:=fun h=>absurd h (by show ¬0<([]:List Sp).length;decide),blk:=(fun x d=>nomatch d),sS:=fun _=>rfl,Dj:=(D:(([]:List UInt8).length:Int)<=1024-8*(([]:List Sp).length:Int)) }
theorem Dx (h:c.Ok):c.qI.Ok:=by
 have b:=h.GP.2.2.2.1;have a:Body { dH with syn:=true,gi:=c.cf.gi,iu:=true }:=⟨Z,Z,Z,.inr Z,(fun h=>nomatch h),(fun _=>.inr II),fun _=>rfl,(D:([]:List UInt8).length<=1000)⟩;unfold Cn.qI;split
 ·exact h.FI a 0 Z
 exact h.EG a 0
theorem iW (c:Cn){lo hi:Int}(hl:lo<=hi):((c.data lo hi).length:Int)<=hi-lo:=by
 unfold Cn.data mC;rw[Lq,Le];omega
theorem vE (c:Cn)(lo hi:Int)(hl:hi<=lo):c.data lo hi=[]:=by
 apply LR
 unfold Cn.data mC;rw[Lq,Le];omega
theorem Ey (h:c.Ok){lo hi:Int}(h1:(c.data lo hi).length<=1000):(c.kZ lo hi).Ok :=
 h.EG ⟨Z,Z,Z,.inl Z,fun _=>⟨Z,Z⟩,(fun h=>absurd h MX),(fun h=>absurd h MX),h1⟩ lo
theorem F3 (h:c.Ok){n:Int}(h0:0<=n)(h1:n<=c.gi):(c.data c.next (c.kn n)).length<=1000:=by
 have b:=h.gi;unfold Cn.kn Cn.data mC;rw[Lq,Le];split
 ·rename_i a;have h2:c.next+n=c.base+c.held.length:=a.2;omega
 omega
theorem DJ (h:c.Ok){n:Int}(h0:0<=n)(h1:n<=c.gi):(c.kl n).Ok:=h.Ey (h.F3 h0 h1)
theorem E7 (h:c.Ok):0<=c.allowed/\c.allowed<=c.gi:=by
 have:=h.gi;unfold Cn.allowed;split
 ·omega
 split
 ·omega
 split <;> omega
theorem all_nil {P:Sg->Prop}:∀x∈([]:List Sg),P x:=fun _ a=>nomatch a
theorem CN {P:Sg->Prop}{l:List Sg}(h:∀x∈l,P x){y:Sg}(hy:P y):∀x∈l++[y],P x:=by
 intro x a
 rcases LE.1 a with a | a
 ·exact h x a
 rw[Lu.1 a];exact hy
theorem xn (n:Nat):∀{c:Cn} (_:c.Ok) (l:List Sg),(∀x∈l,x.Ok)->∀x∈(Go.Proofs.YtcmncipikdpnbaaGreatDoor.n7 n c l).2,x.Ok:=by
 induction n with
 | zero=>exact fun h l a=>a
 | succ n d =>
  intro c h l a;unfold Go.Proofs.YtcmncipikdpnbaaGreatDoor.n7;split
  ·split
   ·exact a
   rename_i x _ _;split
   ·refine d ((h.qn.D7 (h.sc.ret _)).Dk (Tm.tv h.tm)) _ (CN a (h.Ey ?_));have e:=h.gi;by_cases b:x.1<=(aK c.gi x).2
    ·have:=iW c b;unfold aK at this|-;dsimp only at this|-;omega
    rw[vE c _ _ O];decide
   exact a
  exact a
theorem xp {now:Int}(b:aI now)(n:Nat):∀{c:Cn} (_:c.Ok) (l:List Sg),(∀x∈l,x.Ok)->∀x∈(Go.Proofs.YtcmncipikdpnbaaGreatDoor.kr now n c l).2,x.Ok:=by
 induction n with
 | zero=>exact fun h l a=>a
 | succ n d =>
  intro c h l a;unfold Go.Proofs.YtcmncipikdpnbaaGreatDoor.kr;split
  ·have:=h.E7;exact d (h.out b _) _ (CN a (h.DJ this.1 this.2))
  exact a
theorem FJ (h:c.Ok){now:Int}(f:aI now):∀x∈(c.o6 now).2,x.Ok:=by
 have h1:=Cn.Ok.n7 (c.flight.toNat+1) h [];have h2:=xn (c.flight.toNat+1) h [] all_nil;unfold Cn.o6;dsimp only;generalize Go.Proofs.YtcmncipikdpnbaaGreatDoor.n7 (c.flight.toNat+1) c []=a at h1 h2|-;have d:=Cn.Ok.kr f (a.1.iq.toNat+1) h1 a.2;have e:=xp f (a.1.iq.toNat+1) h1 a.2 h2;generalize Go.Proofs.YtcmncipikdpnbaaGreatDoor.kr now (a.1.iq.toNat+1) a.1 a.2=b at d e|-;unfold Go.Proofs.YtcmncipikdpnbaaGreatDoor.ug;split
 ·have:=d.gi;exact CN e (d.DJ D O)
 exact e
theorem EQ (h:c.Ok)(l:List Sg)(hl:∀x∈l,x.Ok):∀x∈(c.qD l).2,x.Ok:=by
 unfold Cn.qD;split
 ·exact CN hl (h.EG CV _)
 exact hl
theorem wk (h:c.Ok){now:Int}(a:aI now):∀x∈(c.push now).2,x.Ok:=by
 unfold Cn.push;split
 ·exact all_nil
 dsimp only;split
 ·exact(h.o6 a).EQ _ (h.FJ a)
 exact h.EQ _ all_nil
theorem BT {P:Sg->Prop}{y:Sg}(hy:P y):∀x∈[y],P x:=fun x a=>by rw[Lu.1 a];exact hy
theorem F4 (h:c.Ok){now:Int}(a:aI now){s:Sg}(hs:s.Ok){off:Int}(ho: -2147483648<=off/\off<=2147483647):∀x∈(c.process now s off).2,x.Ok:=by
 have b:=bP s.ak c.cf.kc;unfold Cn.process;dsimp only;split
 ·rename_i h2;have d:=h.tr2 O;split
  ·exact BT (h.Ew hs.ak)
  have e:=h.step a d 4;split
  ·exact((e.step a (by rw[Cn.A4];exact d) 5).tail a hs ho b.2).wk a
  exact(e.tail a hs ho b.2).wk a
 split
 ·exact h.gB.wk a
 exact(h.tail a hs ho b.2).wk a
theorem FK (h:c.Ok){now:Int}(d:aI now){s:Sg}(hs:s.Ok):∀x∈(c.stray now s).2,x.Ok:=by
 have e:=bP s.ak c.cf.kc;unfold Cn.stray;dsimp only
 have h1:Cn.Ok (if bU c.st=true/\s.has=true/\s.syn=false/\c.fM<=aE s.ak c.cf.kc/\aE s.ak c.cf.kc<=c.next then c.go now s (aE s.ak c.cf.kc)else c):=by
  split
  ·exact(h.go d hs O).1
  exact h
 generalize (if bU c.st=true/\s.has=true/\s.syn=false/\c.fM<=aE s.ak c.cf.kc/\aE s.ak c.cf.kc<=c.next then c.go now s (aE s.ak c.cf.kc)else c)=a at h1|-
 have h2:Cn.Ok (if a.st=9/\s.fin=true then { a with per:=.wA now 60 }else a):=by
  split
  ·exact { h1 with per:=Al.zv d D D }
  exact h1
 generalize (if a.st=9/\s.fin=true then { a with per:=.wA now 60 }else a)=b at h2|-;split
 ·exact h2.gB.wk d
 exact h2.wk d
theorem FL (h:c.Ok){now:Int}(b:aI now){s:Sg}(hs:s.Ok):∀x∈(c.xs now s).2,x.Ok:=by
 unfold Cn.xs;split
 ·split
  ·exact all_nil
  exact BT (h.Ew hs.ak)
 split
 ·exact all_nil
 split
 ·exact all_nil
 rename_i hy;have hy:s.syn=true:=Jm
 have a:=(h.meet hs hy).D9;dsimp only;split
 ·exact BT (a.step b J0 2).Dx
 exact(Eo (step ((a.D7 (a.sc.go 1 [])).Dk (Tm.v8 a.tm now 1)) b J0 3) eD).gB.wk b
theorem F5 (h:c.Ok){now:Int}(a:aI now){s:Sg}(hs:s.Ok):∀x∈(c.receive now s).2,x.Ok:=by
 have b:=bP s.sq (aw c.tq 1);unfold Cn.receive;split
 ·exact all_nil
 rename_i h0;split
 ·exact all_nil
 split
 ·exact h.FL a hs
 unfold Cn.ys;dsimp only;split
 ·exact all_nil
 split
 ·exact all_nil
 split
 ·exact h.FK a hs
 split
 ·exact h.gB.wk a
 split
 ·exact all_nil
 exact h.F4 a hs b
theorem Fu (h:c.Ok):∀x∈c.expire.2,x.Ok:=by
 have a:=h.gi;unfold Cn.expire;split
 ·exact all_nil
 split
 ·exact all_nil
 exact BT (h.DJ O O)
theorem E8 (h:c.Ok){now:Int}(b:aI now)(l:List Sg)(hl:∀x∈l,x.Ok):∀x∈(c.oi now l).2,x.Ok:=by
 unfold Cn.oi;dsimp only;intro x a
 rcases LE.1 a with a | a
 ·exact hl x a
 revert a
 split
 ·exact h.gB.wk b x
 exact h.wk b x
theorem G7 (h:c.Ok){now:Int}(a:aI now):∀x∈(c.tick now).2,x.Ok:=by
 unfold Cn.tick;split
 ·exact all_nil
 rename_i h0;have d:=h.tr2 h0;split
 ·exact all_nil
 split
 ·dsimp only;split
  ·exact all_nil
  rename_i e
  have b:0<=c.tm.og.ka.value/\c.tm.og.ka.value<=1000:=by
   have h1:=c.tm.og.ka.CM;have h2:(0:Int)<=c.tm.og.ka.base*2 ^ c.tm.og.ka.backs.toNat:=MS O (Nf D);unfold Tm.value;omega
  have he:Cn.Ok { c with tries:=c.tries+1,tm:=c.tm.og.ka,dl:=.wA now c.tm.og.ka.value } :=
   { h with tr:=by have:=h.tr;dsimp only;omega,tr2:=fun _=>by dsimp only;omega,tm:=Tm.zw (Tm.tv h.tm),dl:=Al.zv a b.1 b.2 }
  split
  ·exact he.expire.E8 a _ he.Fu
  exact BT he.Dx
 exact h.E8 a _ all_nil
theorem G8 (h:c.Ok){now:Int}(a:aI now)(s:List UInt8)(b:c.last+s.length<=1073741824):∀x∈(c.send now s).2,x.Ok:=by
 unfold Cn.send;split
 ·exact all_nil
 refine wk (c:={ c with held:=c.held++s.take (c.nX s).toNat }) { h with b1:= ?_ } a;unfold Cn.last at b|-;dsimp only;rw[La,Le];omega
theorem G9 (h:c.Ok){now:Int}(a:aI now)(n:Int):∀x∈(c.recv now n).2,x.Ok:=by
 unfold Cn.recv;split
 ·exact all_nil
 dsimp only;split
 ·exact all_nil
 split
 ·exact all_nil
 exact(h.take n).gB.wk a
theorem FM (h:c.Ok){now:Int}(a:aI now):∀x∈(c.close now).2,x.Ok:=by
 have hs:Cn.Ok { c with shut:=true }:={ h with };unfold Cn.close;split
 ·exact all_nil
 rename_i b;have h0:c.st≠0:=fun e=>b (.inl e);dsimp only;split
 ·exact all_nil
 split
 ·exact hs.wk a
 exact(hs.step a (h.tr2 h0) _).wk a
end Cn.Ok
end
end Go.Proofs.YtcmncipikdpnbaaGreatDoor
