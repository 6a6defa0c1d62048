import Derived.Test.YtclkcmidhhfdmaaGreatDoorTcStbU
namespace Go.Proofs.YtclkcmidhhfdmaaGreatDoor
open Lib (hid)
structure Bld (c d:Cn)(l:List Sg):Prop where
 out:l=[]\/∃x:Cn,l=[x.ackS cy x.next]
 st:d.st=c.st
 bx:d.bx=c.bx
 ended:d.ended=c.ended
 fend:d.fend=c.fend
 shut:d.shut=c.shut
 err:d.err=c.err
 held:d.held=c.held
 cf:d.cf=c.cf
theorem xZ (c:Cn):Bld c (c.ackC false) []:=by unfold Cn.ackC;exact⟨.inl rfl,rfl,rfl,rfl,rfl,rfl,rfl,rfl,rfl⟩
theorem nP (c:Cn)(now:Int):Bld c (c.pushT now) []:=by
 unfold Cn.pushT;split
 ·exact⟨.inl rfl,rfl,rfl,rfl,rfl,rfl,rfl,rfl,rfl⟩
 split <;> exact⟨.inl rfl,rfl,rfl,rfl,rfl,rfl,rfl,rfl,rfl⟩
theorem Bld.trans {c d e:Cn}{l m:List Sg}(h:Bld c d l)(k:Bld d e m):Bld c e m :=
 ⟨k.out,k.st.trans h.st,k.bx.trans h.bx,k.ended.trans h.ended,k.fend.trans h.fend,k.shut.trans h.shut,k.err.trans h.err,k.held.trans h.held,k.cf.trans h.cf⟩
theorem Bld.with {c d:Cn}{l:List Sg}(h:Bld c d l){m:List Sg}(hm:m=[]\/∃x:Cn,m=[x.ackS cy x.next]):Bld c d m:=⟨hm,h.st,h.bx,h.ended,h.fend,h.shut,h.err,h.held,h.cf⟩
theorem x6 {c:Cn}(h:jy c)(h0:c.st≠0)(now:Int):Bld c (c.push now).1 (c.push now).2:=by
 rw[uM h h0];split
 ·exact((xZ c).trans (nP _ now)).with (.inr ⟨c,rfl⟩)
 exact nP c now
theorem BI {b x:Int}(h1:1000000000<=x)(h2:x<3000000000):aA (ar b x) (ar b 1)=x-1\/aA (ar b x) (ar b 1)=x-1-4294967296:=by unfold aA ar;omega
theorem BJ {b x:Int}(h1:1000000000<=x)(h2:x<3000000000):aA (ar b x) b=x\/aA (ar b x) b=x-4294967296:=by unfold aA ar;omega
structure Far (c:Cn)(s:Sg):Prop where
 off:c.offset s.sq<= -1000000\/900000000<=c.offset s.sq
 ack:s.has=true->aA s.ak c.cf.iss<0\/900000000<=aA s.ak c.cf.iss
theorem qK {c:Cn}(ok:c.Ok){s:Sg}(hs:s.Ok)(hnx:c.bx.nx<=100000)(f:Far c s):c.accepts (c.offset s.sq) (bF s)=false/\c.offset s.sq≠c.expected:=by
 have he:c.bx.nx<=c.expected/\c.expected<=c.bx.nx+1:=by unfold Cn.expected;split <;> omega
 have h0:=ok.bx.rd0;have h1:=ok.bx.rdnx;have h2:=ok.anm;have h3:=ok.ring;have h4:=ok.room;have hl:=me hs;have hm:c.most=c.bx.rd+c.bx.ring.length:=rfl;have fo:=f.off;generalize c.offset s.sq=o at fo|-;generalize bF s=n at hl|-;refine⟨?_,by omega⟩;unfold Cn.accepts;rw[if_neg (by omega)];split
 ·rfl
 rename_i hx;split
 ·exact decide_eq_false (by omega)
 exact decide_eq_false (by omega)
theorem jy.per {c:Cn}(h:jy c)(a:Al):jy { c with per:=a }:=h
theorem jy.ackNow {c:Cn}(h:jy c):jy c.ackNow:=h
theorem qL {c:Cn}(ok:c.Ok)(h3:3<=c.st){s:Sg}(hs:s.Ok)(hnx:c.bx.nx<=100000)(hn:c.next<=100000)(f:Far c s)(now:Int) :
  c.receive now s=(c,[])\/∃x:Cn,c.receive now s=x.push now/\(x=c\/x=c.ackNow\/x={ c with per:=.aft now 60 }\/x=Cn.ackNow { c with per:=.aft now 60 }):=by
 obtain⟨a1,a2⟩:=qK ok hs hnx f;unfold Cn.receive;rw[if_neg (by omega)];split
 ·exact .inl rfl
 rw[if_neg (by omega)];unfold Cn.recvOk;dsimp only;rw[if_neg (fun hh=>a2 hh.2)];split
 ·exact .inl rfl
 try rw[if_pos a1]
 refine .inr ?_;unfold Cn.stray;dsimp only;have hst:¬(ap c.st=true/\s.has=true/\s.syn=false/\c.una<=aA s.ak c.cf.iss/\aA s.ak c.cf.iss<=c.next):=fun hh=>by have:=f.ack hh.2.1;have:=ok.una;omega
 rw[if_neg hst];by_cases h9:c.st=9/\s.fin=true
 ·rw[if_pos h9];split
  ·exact⟨_,rfl,.inr (.inr (.inr rfl))⟩
  exact⟨_,rfl,.inr (.inr (.inl rfl))⟩
 rw[if_neg h9];split
 ·exact⟨_,rfl,.inr (.inl rfl)⟩
 exact⟨_,rfl,.inl rfl⟩
theorem BK {c:Cn}(ok:c.Ok)(stb:jy c)(h3:3<=c.st){s:Sg}(hs:s.Ok)(hnx:c.bx.nx<=100000)(hn:c.next<=100000)(f:Far c s)(now:Int):Bld c (c.receive now s).1 (c.receive now s).2:=by
 have r:Bld c c []:=⟨.inl rfl,rfl,rfl,rfl,rfl,rfl,rfl,rfl,rfl⟩
 rcases qL ok h3 hs hnx hn f now with e | ⟨x,e,hx⟩
 ·rw[e];exact r
 rw[e];have h0:c.st≠0:=by omega
 have key:∀x:Cn,Bld c x []->jy x->Bld c (x.push now).1 (x.push now).2:=fun x k1 k2=>k1.trans (x6 k2 (by rw[k1.st];exact h0) now)
 rcases hx with rfl | rfl | rfl | rfl
 ·exact key _ r stb
 ·exact key _ ⟨.inl rfl,rfl,rfl,rfl,rfl,rfl,rfl,rfl,rfl⟩ stb
 ·exact key _ ⟨.inl rfl,rfl,rfl,rfl,rfl,rfl,rfl,rfl,rfl⟩ stb
 exact key _ ⟨.inl rfl,rfl,rfl,rfl,rfl,rfl,rfl,rfl,rfl⟩ stb
theorem Bld.seen {c d:Cn}{l:List Sg}(h:Bld c d l):d.st=c.st/\d.bx=c.bx/\d.reached=c.reached/\d.space=c.space/\d.err=c.err/\l.length<=1/\∀s∈l,s.rst=false/\s.syn=false/\s.s=[]:=by
 have hr:d.refusal=c.refusal:=by
  unfold Cn.refusal Cn.failure;rw[h.st,h.err,h.shut]
 refine⟨h.st,h.bx,?_,?_,h.err,?_,?_⟩
 ·unfold Cn.reached;rw[h.bx,h.ended,h.fend]
 ·unfold Cn.space;rw[hr,h.cf,h.held]
 ·rcases h.out with e | ⟨x,e⟩
  ·rw[e];exact Nat.zero_le _
  rw[e];exact Nat.le_refl 1
 rcases h.out with e | ⟨x,e⟩
 ·rw[e];intro s hs;cases hs
 rw[e];intro s hs;rw[List.mem_singleton.1 hs];unfold Cn.ackS;rw[if_neg (by decide)];exact⟨rfl,rfl,rfl⟩
namespace Pr
variable {P : Par} {p : Pr} {n : Int}
def StbP (p:Pr):Prop:=∀i,jy (p.sd i).c
theorem eG (h:StbP p)(i:Bool)(d:Sd)(hd:jy d.c)(l:List Sg):StbP ((p.setSd i d).put i l):=by
 intro j;rw[put_sd]
 rcases eU i j with rfl | rfl
 ·rw[(iG p _ d).1];exact hd
 rw[(iG p _ d).2.1];exact h _
theorem x7:∀(l:List Fl) {p:Pr} {q r:Int},StbP p->Fit p q r->(∀f∈l,f.s.Ok)->StbP (l.foldl Pr.recv1 p):=by
 intro l
 induction l with
 | nil=>intro p q r h _ _;exact h
 | cons f l ih =>
  intro p q r h k hl;have hf:=hl f List.mem_cons_self;exact ih (eG h f.dst { p.sd f.dst with c:=((p.sd f.dst).c.receive p.now f.s).1 } (kb (h _) (k.sd _).c k.in64 hf) _) (recv1_fit k hf) (fun x hx=>hl x (List.mem_cons_of_mem _ hx))
theorem uO (h:StbP p){q r:Int}(k:Fit p q r)(hn:p.now+1<=1000000):StbP p.tick:=by
 have k0:Fit { p with now:=p.now+1 } q r:=⟨k.a,k.b,⟨by have:=k.now;dsimp only;omega,hn⟩,k.wire,k.due,k.log,k.q,k.r⟩;have h1:=x7 ({ p with now:=p.now+1 }:Pr).due (p:={ ({ p with now:=p.now+1 }:Pr)with wire:=({ p with now:=p.now+1 }:Pr).rest }) (fun i=>by cases i;exact h false;exact h true) (rest_fit k0) (fun f hf=>k0.wire f (due_mem hf));have k1:=deliver_fit k0;have h2:=eG h1 false { ({ p with now:=p.now+1 }:Pr).deliver.sd false with c:=((({ p with now:=p.now+1 }:Pr).deliver.sd false).c.tick ({ p with now:=p.now+1 }:Pr).deliver.now).1 } (qI (k1.sd false).c k1.in64 (h1 _)) ((({ p with now:=p.now+1 }:Pr).deliver.sd false).c.tick ({ p with now:=p.now+1 }:Pr).deliver.now).2;have k2:=tick1_fit k1 false;exact eG h2 true { (({ p with now:=p.now+1 }:Pr).deliver.tick1 false).sd true with c:=(((({ p with now:=p.now+1 }:Pr).deliver.tick1 false).sd true).c.tick (({ p with now:=p.now+1 }:Pr).deliver.tick1 false).now).1 } (qI (k2.sd true).c k2.in64 (h2 _)) _
theorem uP (h:StbP p){q r:Int}(k:Fit p q r)(i:Bool)(m:Int):StbP (p.send i m):=by
 have hs:=k.sd i;unfold send;dsimp only;split
 ·exact h
 split
 ·exact h
 have hb:=bytes_len hs m;have hl:=hs.len;have hsl:=hs.sl;have aF:=hs.last;have h0:=hs.s0;exact eG h i { p.sd i with c:=((p.sd i).c.send p.now (bytes (p.sd i) m)).1,sent:=_ } (xY (h i) hs.c k.in64 _ (by omega)) _
theorem uQ (h:StbP p){q r:Int}(k:Fit p q r)(i:Bool)(m:Int):StbP (p.recv i m):=by
 unfold recv;dsimp only;split
 ·exact eG h i { p.sd i with c:=((p.sd i).c.recv p.now m).1 } (qJ (h i) (k.sd i).c k.in64 m) []
 exact eG h i { p.sd i with c:=((p.sd i).c.recv p.now m).1,got:=_,fin:=_ } (qJ (h i) (k.sd i).c k.in64 m) _
theorem uR (h:StbP p){q r:Int}(k:Fit p q r)(i:Bool):StbP (p.shut i):=by
 unfold shut;dsimp only;split
 ·exact h
 split
 ·exact h
 exact eG h i { p.sd i with c:=((p.sd i).c.close p.now).1,closed:=true } (uN (h i) (k.sd i).c k.in64) _
theorem x8 (h:StbP p){q r:Int}(k:Fit p q r)(x:Dv):StbP (p.opD x):=by
 unfold opD;split
 ·exact uP h k _ _
 split
 ·exact uQ h k _ _
 split
 ·exact uR h k _
 exact h
theorem rS (hP:P.Ok):∀(k:Nat) {p:Pr} {n:Int},Al P p n->0<=n->n+k<=5000->StbP p->StbP (ticks k p):=by
 intro k
 induction k with
 | zero=>intro p n _ _ _ h;exact h
 | succ k ih =>
  intro p n h h0 hn hs;exact ih (h.tick h0 (by omega) hP) (by omega) (by omega) (uO hs h.run.1 (by have:=h.run.2;omega))
theorem Aw (hP:P.Ok)(h:Al P p n)(h0:0<=n)(hn:n+21<=5000)(hs:StbP p)(x:Dv):StbP (p.doD x).1:=by
 have hb:=ai x.tick 20 (by decide);obtain⟨e,-⟩:=h.doD hP x h0 hn;rw[e];exact rS hP _ (h.opD x) (by omega) (by omega) (x8 hs h.run.1 x)
def bld (p:Pr)(i:Bool)(s:Sg):Pr:=(p.setC i ((p.sd i).c.receive p.now s).1).put i ((p.sd i).c.receive p.now s).2
theorem Al.far (h:Al P p n)(i:Bool):(p.sd i).c.bx.nx<=1000/\(p.sd i).c.next<=1002:=by
 have hr:=(h.pv.r i).1;have hs:=h.run.1.sd i;have:=hs.nl;have:=hs.last;have:=hs.sl;have:=hs.len;have hl:=iH h.run.1 (!i);refine⟨?_,by omega⟩;have hn0:=hr.pi.ok.rd0;have a0:=hr.pi.ok.rdnx;by_cases hz:(p.sd i).c.bx.nx<=0
 ·omega
 have:=hr.pi.has ((p.sd i).c.bx.nx-1) (.inl (by omega));omega
theorem Al.bld (h:Al P p n)(stb:StbP p)(i:Bool)(h3:3<=(p.sd i).c.st){s:Sg}(hs:s.Ok)(f:Far (p.sd i).c s):Al P (p.bld i s) (n+1)/\StbP (p.bld i s):=by
 have k:=h.run.1;have ks:=k.sd i;obtain⟨b1,b2⟩:=h.far i;have ff:=qL ks.c h3 hs (by omega) (by omega) f p.now;have e:=lm ks.c k.in64 hs;refine⟨⟨⟨(iR k i (ks.em (ks.c.receive k.in64 hs) e) (ks.c.receive_sg k.in64 hs) e.pot).mono (by omega) (by omega),?_⟩,?_,Ml.put (h.ml.setSd _ _) _ _⟩,?_⟩
 ·rw[show(p.bld i s).now=p.now from iT _ _ _ _];have:=h.run.2;omega
 ·obtain⟨a1,a2⟩:=h.pv.s i;obtain⟨r1,r2,r3⟩:=h.pv.r i
  have key:∀r:Cn×List Sg,iY (kx P p i) r->Fx (p.sd i).c r.1->r.1.st=(p.sd i).c.st->PV P ((p.setSd i { p.sd i with c:=r.1 }).put i r.2):=fun r o fx est =>
   h.pv.act i (d:={ p.sd i with c:=r.1 }) rfl (.inl ⟨rfl,id⟩) (iH k _) o (r1.fx fx) (by unfold Ir at r2|-;rw[est,fx.irs];exact r2) r3
  rcases ff with e | ⟨x,e,hx⟩
  ·show PV P ((p.setSd i { p.sd i with c:=((p.sd i).c.receive p.now s).1 }).put i ((p.sd i).c.receive p.now s).2);rw[e];exact key ((p.sd i).c,[]) ⟨a1,Cn.Ok.all_nil,a2⟩ (.refl _) rfl
  show PV P ((p.setSd i { p.sd i with c:=((p.sd i).c.receive p.now s).1 }).put i ((p.sd i).c.receive p.now s).2);rw[e]
  have go:∀x:Cn,x.Ok->SI (kx P p i) x->Fx (p.sd i).c x->x.st=(p.sd i).c.st->x.una=(p.sd i).c.una->PV P ((p.setSd i { p.sd i with c:=(x.push p.now).1 }).put i (x.push p.now).2):=fun x xo xs xf xst xu =>
   key _ (xs.push3 xo k.in64 (fun hh=>by rw[xu];exact a2 (by rw[<-xst];exact hh))) (xf.trans (cJ x p.now)) (by rw[cm];exact xst)
  have op:Cn.Ok { (p.sd i).c with per:=.aft p.now 60 }:={ ks.c with per:=Al.aft_ok k.in64 (by decide) (by decide) }
  rcases hx with rfl | rfl | rfl | rfl
  ·exact go _ ks.c a1 (.refl _) rfl rfl
  ·exact go _ ks.c.ackNow a1.ackNow ⟨rfl,rfl,rfl,rfl⟩ rfl rfl
  ·exact go _ op (a1.same _ rfl rfl rfl rfl rfl rfl rfl rfl rfl) ⟨rfl,rfl,rfl,rfl⟩ rfl rfl
  exact go _ op.ackNow ((a1.same { (p.sd i).c with per:=.aft p.now 60 } rfl rfl rfl rfl rfl rfl rfl rfl rfl).ackNow) ⟨rfl,rfl,rfl,rfl⟩ rfl rfl
 exact eG stb i { p.sd i with c:=((p.sd i).c.receive p.now s).1 } (kb (stb i) ks.c k.in64 hs) _
end Pr
theorem Ay (x:Rw)(fates:List Int)(n m:Nat):Pr.StbP (gr x fates n m):=by
 rw[iI];intro i;rw[Pr.put_sd]
 cases i
 ·exact .none rfl
 exact .none rfl
end Go.Proofs.YtclkcmidhhfdmaaGreatDoor
