import Derived.Test.YtcmncipikdpnbaaGreatDoorUb32
namespace Go.Proofs.YtcmncipikdpnbaaGreatDoor
def C9 (s:Sc)(m i:Int):Bool:=decide (¬(aD (iP i s.sk)/3<m/\(iP i s.sk).length<3))
theorem wW {e a b:Int}(d:a<=b):∀{L:List Sp},aJ e L=true->(∀j,a<=j->j<b->¬ap j L)->iP a L=iP b L:=by
 intro L
 induction L generalizing e with
 | nil=>intro _ _;rfl
 | cons x l f =>
  intro h c;rw[aB]at h;rw[cB,cB];by_cases h1:x.2<=a
  ·rw[L7 h1,L7 O];exact f h.2 (fun j h2 g i=>c j h2 g (mem_cons.2 (.inr i)))
  rw[L5 h1];rw[L5];intro h2;exact c (x.2-1) O O (mem_cons.2 (.inl O))
theorem zN {i:Int}:∀{L:List Sp},(∀x∈L,x.2<=i)->iP i L=[]:=by
 intro L
 induction L with
 | nil=>intro _;rfl
 | cons x l a =>
  intro h;rw[cB,L7 (h x M4)];exact a (fun y hy=>h y (Mg _ hy))
theorem uV {s:Sc}(h:s.Ok){m i:Int}:ap i (s.all m)↔((s.fM<=i/\i<s.next)/\¬ap i s.sk)/\(C9 s m i=true\/i<s.mark):=by
 rw[(fE s m).2]
 have up:∀g∈s.gaps,g.1<=i->i<g.2->iP g.1 s.sk=iP i s.sk:=fun g a h1 h2 =>
  wW h1 h.DX (fun j b d=>((cm h).1 ⟨g,a,b,O⟩).2)
 constructor
 ·rintro⟨g,a,h1,h2⟩;have e:=dU s m (Int.le_of_lt (kj (bq s) a));have b:i<g.2:=by omega
  refine⟨(cm h).1 ⟨g,a,h1,b⟩,?_⟩;by_cases c:aD (iP g.1 s.sk)/3<m/\(iP g.1 s.sk).length<3
  ·unfold Sc.mm at h2;rw[L7 c]at h2;dsimp only at h2;exact .inr O
  refine .inl ?_;unfold C9;rw[<-up g a h1 b];exact Lc c
 rintro⟨h1,h2⟩;obtain⟨g,a,b,d⟩:=(cm h).2 h1;refine⟨g,a,b,?_⟩;unfold Sc.mm;split
 ·rename_i c
  rcases h2 with h2 | h2
  ·unfold C9 at h2;rw[<-up g a b d]at h2;exact absurd c (LJ h2)
  dsimp only;omega
 exact d
theorem wX {s:Sc}(h:s.Ok){m:Int}(hm:1<=m)(t:Int):(s.sent t).lost m=s.lost m/\s.pipe m<=(s.sent t).pipe m:=by
 unfold Sc.sent;split
 ·rename_i b;have hs:({ s with next:=t }:Sc).Ok:=by have:=h.sent t;unfold Sc.sent at this;rw[L7 b]at this;exact this
  unfold Sc.BV at b;rw[Lh]at b;have f:=h.mn
  have c:∀i,ap i (({ s with next:=t }:Sc).all m)↔ap i (s.all m):=fun i=>by
   rw[uV hs,uV h];show((s.fM<=i/\i<t)/\¬ap i s.sk)/\(C9 s m i=true\/i<s.mark)↔_
   constructor
   ·rintro⟨⟨h1,h2⟩,a⟩;by_cases hi:i<s.next
    ·exact⟨⟨⟨h1.1,hi⟩,h2⟩,a⟩
    exfalso
    rcases a with a | a
    ·unfold C9 at a;rw[zN (fun x g=>by have:=ux h g;omega)]at a;refine LJ a ⟨?_,D⟩;show(0:Int)/3<m;omega
    omega
   rintro⟨⟨h1,h2⟩,a⟩;exact⟨⟨⟨h1.1,O⟩,h2⟩,a⟩
  have d:({ s with next:=t }:Sc).all m=s.all m:=fZ (fE _ m).1 (fE s m).1 c;refine⟨by rw[lu hm,lu hm,d],?_⟩;rw[gp _ hm,gp _ hm,d];obtain⟨j,k,l,n,o,p⟩:=mK h m hm;obtain⟨q,r,u,w,y,e⟩:=mK hs m hm;have e:t-s.fM=aD s.sk+aD ({ s with next:=t }:Sc).gaps:=e;show aD s.ag+(aD s.gaps-aD (s.all m))<=aD s.ag+(aD ({ s with next:=t }:Sc).gaps-aD (s.all m));omega
 exact⟨Z,L9 _⟩
theorem gO.out {c:Cn}(h:gO c)(ok:c.Ok)(now n:Int):gO (c.out now n):=by
 have f:=ok.gi;obtain⟨a,g⟩:=wX ok.sc (m:=c.gi) O (c.kn n);have em:(c.out now n).gi=c.gi:=JA
 have b:(c.out now n).cg=c.cg:=JA
 have d:(c.out now n).sc=c.sc.sent (c.kn n):=Z;unfold gO at h|-;rw[em,b,d,a];exact fun e=>h ⟨O,e.2⟩
theorem wY:∀(k:Nat) {c:Cn} (l:List Sg),c.Ok->iN c<k->gO (n7 k c l).1:=by
 intro k
 induction k with
 | zero=>intro c l _ h;omega
 | succ k e =>
  intro c l ok f;by_cases d:c.sc.pipe c.gi<c.cg.win
  ·cases hl:c.sc.lost c.gi with
   | nil =>
    have a:gO c:=fun b=>b.2 hl;rw[j0 a];exact a
   | cons x t =>
    rw[jZ ok d hl];obtain⟨-,f2,f3,-⟩:=pZ ok hl;exact e _ f3 O
  have a:gO c:=fun b=>d b.1;rw[j0 a];exact a
theorem wZ {now:Int}(d:aI now):∀(k:Nat) {c:Cn} (l:List Sg),c.Ok->gO c->c.iq.toNat<k->gO (kr now k c l).1/\(kr now k c l).1.allowed<=0:=by
 intro k
 induction k with
 | zero=>intro c l _ _ h;omega
 | succ k e =>
  intro c l ok b f;unfold kr;by_cases a:0<c.allowed
  ·rw[L7 a];have:=(mp ok (now:=now) (v:=c.allowed) (.inl ⟨a,Z⟩)).2.2 a;exact e _ (ok.out d _) (b.out ok now _) O
  rw[L5 a];exact⟨b,by show c.allowed<=0;omega⟩
theorem po {c:Cn}(h:c.iq<=0):c.allowed<=0:=by
 unfold Cn.allowed;rw[L7 O];exact L9 0
def Ba (c:Cn):Prop:=gO c/\c.allowed<=0/\¬(c.shut=true/\c.next=c.last)
def tQ (c:Cn):Prop:=ae c.st=true->Ba c
theorem wg {c:Cn}(ok:c.Ok){now:Int}(h:aI now):Ba (c.o6 now).1:=by
 unfold Cn.o6;dsimp only;have h1:=wY (c.flight.toNat+1) [] ok (kC ok);have d:=Cn.Ok.n7 (c.flight.toNat+1) ok [];generalize n7 (c.flight.toNat+1) c []=r at h1 d|-;have h2:=wZ h (r.1.iq.toNat+1) r.2 d h1 O;have b:=Cn.Ok.kr h (r.1.iq.toNat+1) d r.2;generalize kr now (r.1.iq.toNat+1) r.1 r.2=q at h2 b|-;unfold ug;split
 ·rename_i a;have m:=b.fM;have n:=b.b1;have i:q.1.kn 0=q.1.next+1:=by unfold Cn.kn;rw[L7 ⟨a.1,O⟩];omega
  have f:(q.1.out now 0).last=q.1.last:=JA
  have j:(q.1.out now 0).next=q.1.kn 0:=by
   show(q.1.sc.sent (q.1.kn 0)).next=_;unfold Sc.sent Sc.BV;have e:q.1.sc.next=q.1.next:=Z;rw[L7 (Lc ⟨O,O⟩)]
  refine⟨h2.1.out b now 0,po ?_,fun k=> ?_⟩
  ·have l:(q.1.out now 0).iq=max 0 ((q.1.out now 0).last-(q.1.out now 0).next):=Z;have g:=a.2;show(q.1.out now 0).iq<=0;omega
  have o:(q.1.out now 0).next=(q.1.out now 0).last:=k.2;have g:=a.2;omega
 rename_i a;exact⟨h2.1,h2.2,a⟩
theorem Ba.qG {c:Cn}(h:Ba c)(b:Bool):Ba (c.qG b):=by unfold Cn.qG;split <;> exact h
theorem Ba.lp {c:Cn}(h:Ba c)(now:Int):Ba (c.lp now):=by
 unfold Cn.lp;split
 ·exact h
 split <;> exact h
theorem nK {c:Cn}(ok:c.Ok){now:Int}(a:aI now):tQ (c.push now).1:=by
 intro hs;rw[dA]at hs;unfold Cn.push;have h0:c.st≠0:=Km
 rw[L5 h0];dsimp only;rw[L7 hs];have h:=wg ok a;unfold Cn.qD;split
 ·exact(h.qG false).lp now
 exact h.lp now
structure Ot (c d:Cn):Prop where
 over:d.over=c.over
 tries:d.tries=c.tries
 per:d.per=c.per
 backs:d.tm.backs=c.tm.backs
 shut:d.shut=c.shut
theorem Ot.refl (c:Cn):Ot c c:=⟨Z,Z,Z,Z,Z⟩
theorem nL (m:Tm)(now n:Int):(m.sent now n).backs=m.backs:=by unfold Tm.sent;split <;> rfl
theorem zO (n:Nat):∀(c:Cn) (l:List Sg),Ot c (n7 n c l).1/\(n7 n c l).1.dl=c.dl:=by
 induction n with
 | zero=>intro c l;exact⟨.refl c,Z⟩
 | succ n a =>
  intro c l;unfold n7;split
  ·cases hl:c.sc.lost c.gi with
   | nil=>exact⟨.refl c,Z⟩
   | cons x t =>
    dsimp only;split
    ·obtain⟨k,e⟩:=a { c.qn with sc:=c.sc.ret (aK c.gi x),tm:=c.tm.og } (l++[c.kZ x.1 (aK c.gi x).2]);exact⟨⟨k.over,k.tries,k.per,k.backs,k.shut⟩,e⟩
    exact⟨⟨Z,Z,Z,Z,Z⟩,Z⟩
  exact⟨.refl c,Z⟩
theorem zP (now:Int)(n:Nat):∀(c:Cn) (l:List Sg),Ot c (kr now n c l).1/\(kr now n c l).1.dl=c.dl:=by
 induction n with
 | zero=>intro c l;exact⟨.refl c,Z⟩
 | succ n a =>
  intro c l;unfold kr;split
  ·obtain⟨k,e⟩:=a (c.out now c.allowed) (l++[c.kl c.allowed]);exact⟨⟨k.over,k.tries,k.per,k.backs.trans (nL _ _ _),k.shut⟩,e⟩
  exact⟨.refl c,Z⟩
theorem zQ (c:Cn)(now:Int):Ot c (c.o6 now).1/\(c.o6 now).1.dl=c.dl:=by
 unfold Cn.o6;dsimp only;obtain⟨a,d⟩:=zO (c.flight.toNat+1) c [];generalize n7 (c.flight.toNat+1) c []=r at a d|-;obtain⟨b,e⟩:=zP now (r.1.iq.toNat+1) r.1 r.2;generalize kr now (r.1.iq.toNat+1) r.1 r.2=q at b e|-;unfold ug;split
 ·exact⟨⟨b.over.trans a.over,b.tries.trans a.tries,b.per.trans a.per,(nL _ _ _).trans (b.backs.trans a.backs),b.shut.trans a.shut⟩,e.trans d⟩
 exact⟨⟨b.over.trans a.over,b.tries.trans a.tries,b.per.trans a.per,b.backs.trans a.backs,b.shut.trans a.shut⟩,e.trans d⟩
def DC (c d:Cn)(now:Int):Prop:=(0<d.flight->d.dl.set=true)/\(d.dl=c.dl\/(d.flight<=0/\d.dl=eG)\/(c.dl.set=false/\∃m:Tm,m.backs=c.tm.backs/\d.dl= .wA now m.value))
theorem io (c:Cn)(now:Int):Ot c (c.push now).1/\(c.st≠0->DC c (c.push now).1 now):=by
 unfold Cn.push;split
 ·rename_i h;exact⟨.refl c,fun g=>absurd h g⟩
 dsimp only
 have k:Ot c (if ae c.st=true then c.o6 now else(c,[])).1/\(if ae c.st=true then c.o6 now else(c,[])).1.dl=c.dl:=by
  split
  ·exact zQ c now
  exact⟨.refl c,Z⟩
 generalize (if ae c.st=true then c.o6 now else(c,[]))=r at k|-;obtain⟨k,f⟩:=k
 have b:∀d:Cn,Ot c d->d.dl=c.dl->Ot c (d.lp now)/\(c.st≠0->DC c (d.lp now) now):=fun d h e=>by
  unfold Cn.lp;split
  ·rename_i g;refine⟨⟨h.over,h.tries,h.per,h.backs,h.shut⟩,fun _=>⟨fun a=> ?_,.inr (.inl ⟨g.1,Z⟩)⟩⟩;have a:0<d.flight:=a;omega
  split
  ·rename_i g;exact⟨h,fun _=>⟨fun _=>g,.inl e⟩⟩
  rename_i g;exact⟨⟨h.over,h.tries,h.per,h.backs,h.shut⟩,fun _=>⟨fun _=>rfl,.inr (.inr ⟨by rw[<-e];simpa using g,d.tm,h.backs,Z⟩)⟩⟩
 unfold Cn.qD;split
 ·exact b _ ⟨k.over,k.tries,k.per,k.backs,k.shut⟩ f
 exact b _ k f
structure SV (c d:Cn)(l:List Sg):Prop where
 fM:c.fM<=d.fM
 nx:c.next<=d.next
 lim:c.limit<=d.limit
 last:c.last<=d.last
 cf:d.cf=c.cf
 Gt:∀o,c.next<=o->o<d.next->o<d.last->∃s∈l,∃lo,s.sq=aw c.cf.kc lo/\lo<=o/\o<lo+s.s.length/\lo+s.s.length<=d.limit
 Gb:∀s∈l,∃lo,s.sq=aw c.cf.kc lo/\d.fM<=lo/\lo+s.s.length+mR s<=d.next
structure RV (c d:Cn)(l:List Sg)(now:Int):Prop where
 has:∀i,c.bx.has i->d.bx.has i
 exp:c.expected<=d.expected
 tq:d.tq=c.tq
 p2:d.pend≠2
 k:(l=[]/\d.ann=c.ann/\((d.pend=c.pend/\d.pd=c.pd/\d.expected=c.expected)\/(d.pend=1/\c.pend=0/\d.pd= .wA now 2)))\/(l≠[]/\d.pend=0/\c.ann<=d.ann/\∀s∈l,Carry d s)
theorem eU {c d:Int}(h:gb c 7=some d)(a:3<=c/\c<=9):(c=4/\d=5)\/(c=7/\d=9)\/(c=8/\d=0):=by
 have a:c=3\/c=4\/c=5\/c=6\/c=7\/c=8\/c=9:=O
 rcases a with rfl | rfl | rfl | rfl | rfl | rfl | rfl <;> simp[gb]at h <;> omega
theorem uW {c d:Int}(h:gb c 6=some d)(a:aV c=true):(c=3/\d=6)\/(c=4/\d=7)\/(c=5/\d=9):=by
 rcases LJ a with rfl | rfl | rfl <;> simp[gb]at h <;> omega
theorem zR {c:Int}(a:aV c=true):∃d,gb c 6=some d/\6<=d:=by
 rcases LJ a with rfl | rfl | rfl
 ·exact⟨6,Z,D⟩
 ·exact⟨7,Z,D⟩
 exact⟨9,Z,D⟩
def ru (k:Int):Int:=if k<=0 then 4 else if k=1 then 8 else if k=2 then 16 else if k=3 then 32 else if k=4 then 64 else if k=5 then 128 else 240
def BC (k:Int):Int:=if k<=0 then 0 else if k=1 then 4 else if k=2 then 12 else if k=3 then 28 else if k=4 then 60 else if k=5 then 124 else 252+240*(k-6)
theorem nM {k:Int}(h:0<=k):BC (k+1)=BC k+ru k/\0<=BC k/\4<=ru k:=by
 by_cases a:6<=k
 ·unfold BC ru;rw[L5 O,L5 O,L5 O,L5 O,L5 O,L5 O,L5 O,L5 O,L5 O,L5 O,L5 O,L5 O,L5 O,L5 O,L5 O,L5 O,L5 O,L5 O];omega
 obtain h | h | h | h | h | h:k=0\/k=1\/k=2\/k=3\/k=4\/k=5:=O
 all_goals (subst h;decide)
theorem lz {m:Tm}{k:Int}(h:0<k->min k 8<=m.backs):ru k<=m.value/\m.value<=240:=by
 obtain⟨c,-⟩:=m.CM;unfold Tm.value
 have a:∀j:Nat,(j:Int)<=m.backs->4*2 ^ j<=m.base*2 ^ m.backs.toNat:=fun j g=>by
  have h1:(2:Int) ^ j<=2 ^ m.backs.toNat:=by
   have h2:(2:Nat) ^ j<=2 ^ m.backs.toNat:=Nat.pow_le_pow_right D O
   exact_mod_cast h2
  have d:(0:Int)<=2 ^ j:=by
   have h2:0<=(2:Nat) ^ j:=LW _
   exact_mod_cast h2
  have b:=Int.mul_le_mul c h1 d O;exact b
 by_cases f:k<=0
 ·have e:ru k=4:=by unfold ru;rw[L7 f]
  have h1:(1:Int)<=2 ^ m.backs.toNat:=by
   have h2:1<=(2:Nat) ^ m.backs.toNat:=Nat.one_le_two_pow
   exact_mod_cast h2
  have b:=Int.mul_le_mul c h1 D O;omega
 have i:=h O;by_cases l:6<=k
 ·have b:=a 6 O;have e:ru k=240:=by unfold ru;rw[L5 O,L5 O,L5 O,L5 O,L5 O,L5 O]
  omega
 obtain h | h | h | h | h:k=1\/k=2\/k=3\/k=4\/k=5:=O
 ·have b:=a 1 O;subst h;rw[show ru 1=8 from Z];omega
 ·have b:=a 2 O;subst h;rw[show ru 2=16 from Z];omega
 ·have b:=a 3 O;subst h;rw[show ru 3=32 from Z];omega
 ·have b:=a 4 O;subst h;rw[show ru 4=64 from Z];omega
 have b:=a 5 O;subst h;rw[show ru 5=128 from Z];omega
structure NI (c:Cn)(now:Int):Prop where
 t0:0<=c.tries
 bk:0<c.tries->min c.tries 8<=c.tm.backs
 cw:BC c.tries<=now
 dl:c.dl.set=true->BC c.tries<=c.dl.since/\ru c.tries<=c.dl.ticks/\c.dl.since<=now/\c.dl.ticks<=240
structure Ci (c:Cn):Prop where
 sf:c.shut=false->c.st=3\/c.st=6
 fa:c.st=5\/c.st=9->c.last<c.fM
 ub:min c.fM c.last<=c.base
def ND (c:Cn)(now:Int):Prop:=c.dl.set=true->now<c.dl.since+c.dl.ticks
structure Ex (K:Prop)(c e:Cn)(now:Int):Prop where
 AC:c.largest<=e.largest
 sh:c.shut=true->e.shut=true
 ci:Ci c->Ci e
 keep:K->e.fM=c.fM->0<c.next-c.fM->c.dl.set=true->e.dl=c.dl
 ni:NI c now->NI e now
 nd:(K->ND c now)->ND e now
theorem Ex.trans {K:Prop}{c d e:Cn}{now:Int}(h:Ex K c d now)(k:Ex True d e now)(i:c.fM<=d.fM)(j:d.fM<=e.fM)(l:c.next<=d.next):Ex K c e now :=
 ⟨Lz h.AC k.AC,fun g=>k.sh (h.sh g),fun g=>k.ci (h.ci g),fun q a f g=>by
  have b:=h.keep q O f g;rw[k.keep trivial O O (by rw[b];exact g),b],fun g=>k.ni (h.ni g),fun g=>k.nd fun _=>h.nd g⟩
theorem Ex.same {c e:Cn}(now:Int)(h1:e.largest=c.largest)(h2:e.shut=c.shut)(f:e.st=c.st)(j:e.sc.fM=c.sc.fM)(k:e.held=c.held)(h:e.base=c.base)(d:e.dl=c.dl)(b:e.tries=c.tries)(l:e.tm.backs=c.tm.backs):Ex True c e now:=by
 have el:e.last=c.last:=by unfold Cn.last;rw[k,h]
 have i:e.fM=c.fM:=j;exact⟨Mr h1.symm,fun g=>h2.trans g,fun g=>⟨fun a=>by rw[f];exact g.sf (h2.symm.trans a),fun a=>by rw[el,i];exact g.fa (by rw[<-f];exact a),by rw[el,i,h];exact g.ub⟩,fun _ _ _ _=>d,fun g=>⟨by rw[b];exact g.t0,by rw[b,l];exact g.bk,by rw[b];exact g.cw,by rw[d,b];exact g.dl⟩,fun g a=>by rw[d]at a|-;exact g trivial a⟩
theorem Ex.of {K:Prop}{c e:Cn}{now:Int}(k:K)(h:Ex True c e now):Ex K c e now:=⟨h.AC,h.sh,h.ci,fun _=>h.keep trivial,h.ni,fun g=>h.nd fun _=>g k⟩
structure Pre (K:Prop)(c e:Cn)(now:Int):Prop where
 fM:c.fM<=e.fM
 nx:e.next=c.next
 lim:c.limit<=e.limit
 last:c.last<=e.last
 cf:e.cf=c.cf
 has:∀i,c.bx.has i->e.bx.has i
 exp:c.expected<=e.expected
 tq:e.tq=c.tq
 ann:e.ann=c.ann
 k:e.pend=2\/(e.pend=c.pend/\e.pd=c.pd/\e.expected=c.expected)\/(e.pend=1/\c.pend=0/\e.pd= .wA now 2)
 ex:Ex K c e now
structure XV (K:Prop)(c d:Cn)(now:Int):Prop where
 ex:Ex K c d now
 inc:40<=c.largest->d.next=c.next\/c.next+min 20 (c.last-c.next)<=d.next
 set:(0<c.flight->c.dl.set=true)->0<d.flight->d.dl.set=true
 IA:tQ c->tQ d
theorem XV.refl (c:Cn)(now:Int):XV True c c now:=⟨.same now Z Z Z Z Z Z Z Z Z,fun _=>.inl Z,fun h=>h,fun h=>h⟩
theorem uX {e d:Cn}{l:List Sg}(sent:xa e d l){now:Int}(o:Ot e d)(p:DC e d now):Ex True e d now:=by
 have c:=sent.last;refine⟨Mr sent.AC.symm,fun g=>sent.shut.trans g,fun g=>⟨fun a=>by rw[sent.st];exact g.sf (sent.shut.symm.trans a),fun a=>by rw[c,sent.fM];exact g.fa (by rw[<-sent.st];exact a),by rw[c,sent.fM,sent.base];exact g.ub⟩,fun _ a f g=> ?_,fun g=> ?_,fun g a=> ?_⟩
 ·rcases p.2 with h | ⟨h,-⟩ | ⟨h,-⟩
  ·exact h
  ·have:=sent.nx;have i:d.flight=d.next-d.fM:=Z;omega
  rw[h]at g;cases g
 ·have hw:=nM g.t0;refine⟨by rw[o.tries];exact g.t0,by rw[o.tries,o.backs];exact g.bk,by rw[o.tries];exact g.cw,?_⟩;rw[o.tries]
  rcases p.2 with h | ⟨-,h⟩ | ⟨-,m,h1,h⟩
  ·rw[h];exact g.dl
  ·rw[h];exact fun a=>by cases a
  rw[h];have b:=lz (m:=m) (k:=e.tries) (by rw[h1];exact g.bk);exact fun _=>⟨g.cw,b.1,L9 _,b.2⟩
 rcases p.2 with h | ⟨-,h⟩ | ⟨-,m,h1,h⟩
 ·rw[h]at a|-;exact g trivial a
 ·rw[h]at a;cases a
 rw[h];have b:=(lz (m:=m) (k:=0) (fun q=>absurd q D)).1;have h2:ru 0=4:=Z;show now<now+m.value;omega
theorem Pre.push {K:Prop}{c e:Cn}{now:Int}(h:Pre K c e now)(ok:e.Ok)(y:aI now)(h0:e.st≠0)(so:ae e.st=true->F6 e) :
  SV c (e.push now).1 (e.push now).2/\RV c (e.push now).1 (e.push now).2 now/\(e.push now).1.fM=e.fM/\(e.push now).1.limit=e.limit/\(e.push now).1.last=e.last/\(∀i,(e.push now).1.bx.has i↔e.bx.has i)/\(e.push now).1.expected=e.expected/\(e.pend=2->(e.push now).2≠[])/\XV K c (e.push now).1 now/\(e.push now).1.largest=e.largest:=by
 obtain⟨k,z⟩:=gL ok y h0;have r:=h.nx
 have V:xa e (e.push now).1 (e.push now).2/\Gc e (e.push now).1:=by
  by_cases hs:ae e.st=true
  ·exact oE ok (so hs) y
  unfold Cn.push;rw[L5 h0];dsimp only;rw[L5 hs];dsimp only;obtain⟨l,A,B,C,E,F,G,I,J⟩:=mV e now;unfold Cn.qD;split
  ·obtain⟨l,A,B,C,E,F,G,I,J⟩:=mV (e.qG false) now;have hz:=gu e dH e.next;have L:(e.qE dH e.next).s=[]:=hz.2.1;have g:=(xa.refl e).more (e.qG false) (e.qE dH e.next) e.next hz.1 ok.fM.2.1 (by rw[L,show mR (e.qE dH e.next)=0 from by unfold mR;rw[hz.2.2.1];rfl];show e.next+((0:Nat):Int)+0<=e.next;omega) (.inl Z) Z Z Z Z Z Z Z Z Z;exact⟨g.to _ (by rw[l]) (by rw[l]) A B C E F G I J,.of (.inl (by show(Cn.lp _ now).sc.next=_;rw[l];rfl))⟩
  exact⟨(xa.refl e).to _ (by rw[l]) (by rw[l]) A B C E F G I J,.of (.inl (by show(Cn.lp _ now).sc.next=_;rw[l];rfl))⟩
 obtain⟨sent,M⟩:=V;have N:=io e now;have m:=cE k.fx;have T:=sent.last;refine⟨⟨by rw[sent.fM];exact h.fM,by have:=sent.nx;omega,by rw[sent.lim];exact h.lim,by rw[T];exact h.last,sent.cf.trans h.cf,fun o a b d=> ?_,fun s hs=> ?_⟩,⟨fun i hi=>by rw[k.fx.bx];exact h.has i hi,by rw[m.1];exact h.exp,k.fx.tq.trans h.tq,z,?_⟩,sent.fM,sent.lim,T,fun i=>by rw[k.fx.bx],m.1,fun W=> ?_,?_,sent.AC⟩
 ·obtain⟨s,hs,lo,g1,j,u,U⟩:=sent.Gt o O b O;exact⟨s,hs,lo,K6,j,u,by rw[sent.lim];exact U⟩
 ·obtain⟨lo,g1,j,u⟩:=sent.Gb s hs;exact⟨lo,K6,by rw[sent.fM];exact j,u⟩
 ·have X:=h.ann
  rcases k.k with⟨p,w,q,t⟩ | ⟨p,w,q,t⟩
  ·refine .inl ⟨p,w.trans X,?_⟩
   rcases h.k with hk | ⟨P,x,a3⟩ | ⟨P,x⟩
   ·exact absurd (q.trans hk) z
   ·exact .inl ⟨q.trans P,t.trans x,m.1.trans a3⟩
   exact .inr ⟨q.trans P,x.1,t.trans x.2⟩
  refine .inr ⟨p,w,?_,t⟩;have:=ks (ee ok);omega
 ·rcases k.k with⟨p,w,q,t⟩ | ⟨p,-⟩
  ·exact absurd (q.trans W) z
  exact p
 refine⟨h.ex.trans (uX sent N.1 (N.2 h0)) h.fM (Mr sent.fM.symm) (Mr r.symm),fun ba=> ?_,fun _=>(N.2 h0).1,fun _=>nK ok y⟩;have cC:=h.ex.AC;have S:=h.last;have hm:=ok.gi;have a0:e.iq=max 0 (e.last-e.next):=Z
 rcases M.f with g | ⟨n,g1,j,u,U⟩ | ⟨g1,j⟩
 ·exact .inl (g.trans r)
 ·refine .inr ?_
  rcases j with j | ⟨j,-⟩ | j <;> omega
 exact .inr O
theorem zS {c d:Cn}(h1:c.bx.nx<=d.bx.nx)(h2:c.ended=true->d.ended=true/\d.ox=c.ox/\d.bx.nx<=c.ox):c.expected<=d.expected:=by
 unfold Cn.expected Cn.reached;by_cases a:(c.ended&&decide (c.bx.nx=c.ox))=true
 ·rw[L7 a];rw[Ly,Lh]at a;obtain⟨g1,b,e⟩:=h2 a.1;rw[L7 (by rw[Ly,Lh];exact⟨g1,O⟩)];omega
 rw[L5 a];split <;> omega
structure HJ (c:Cn)(s:Sg)(off a:Int):Prop where
 qa:s.qa=false
 syn:s.syn=false
 has:s.has=true
 port:s.fp=c.cf.tp/\s.tp=c.cf.fp
 off:c.offset s.sq=off
 ack:aE s.ak c.cf.kc=a
theorem tR {s:Sg}(h:s.syn=false):aj s=s.s.length+(if s.fin=true then 1 else 0):=by unfold aj;rw[h];simp
theorem GQ.pre {c d:Cn}{j w:Int}(h:GQ c d j w)(k:c.fM<=j)(now:Int):Pre True c d now:=by
 have b:=cE h.rv.fx;refine⟨by rw[h.fM];exact k,h.next,by rw[h.lim];omega,by rw[h.last];exact L9 _,h.cf,fun i hi=>by rw[h.rv.fx.bx];exact hi,by rw[b.1];exact L9 _,h.rv.fx.tq,h.rv.ann,.inr (.inl ⟨h.rv.pend,h.rv.pd,b.1⟩),?_⟩;refine⟨by rw[h.AC];omega,fun g=>h.shut.trans g,fun g=>⟨fun a=> ?_,fun a=> ?_,by rw[h.fM,h.last];exact h.ub g.ub⟩,fun _ a _ _=>h.dk (by rw[h.fM]at a;omega),fun g=> ?_,fun g a=> ?_⟩
 ·rcases h.st with e | ⟨-,e⟩
  ·rw[e];exact g.sf (h.shut.symm.trans a)
  rcases g.sf (h.shut.symm.trans a)with f | f <;> (rw[f]at e;cases e)
 ·rw[h.last,h.fM]
  rcases h.st with e | ⟨e,-⟩
  ·have:=g.fa (by rw[<-e];exact a);omega
  exact e.2
 ·have hw:=nM g.t0;refine⟨by rw[h.tries];decide,fun a=>by rw[h.tries]at a;exact absurd a D,?_,fun a=> ?_⟩
  ·rw[h.tries];have:=g.cw;show 0<=now;omega
  rw[h.tries]
  rcases Mx c.fM j with f | f
  ·rw[h.dl f]at a;cases a
  rw[h.dk f]at a|-;have l:=g.dl a;have:=g.cw;exact⟨by show 0<=_;omega,by show 4<=_;omega,l.2.2⟩
 rcases Mx c.fM j with f | f
 ·rw[h.dl f]at a;cases a
 rw[h.dk f]at a|-;exact g trivial a
theorem Pre.trans {K:Prop}{c d e:Cn}{now:Int}(h:Pre K c d now)(k:Pre True d e now):Pre K c e now:=by
 refine⟨Lz h.fM k.fM,k.nx.trans h.nx,Lz h.lim k.lim,Lz h.last k.last,k.cf.trans h.cf,fun i hi=>k.has i (h.has i hi),Lz h.exp k.exp,k.tq.trans h.tq,k.ann.trans h.ann,?_,h.ex.trans k.ex h.fM k.fM (Mr h.nx.symm)⟩
 rcases k.k with a | ⟨a,f,g⟩ | ⟨a,f,g⟩
 ·exact .inl a
 ·rcases h.k with h1 | ⟨h1,h2,b⟩ | ⟨h1,h2,b⟩
  ·exact .inl (a.trans h1)
  ·exact .inr (.inl ⟨a.trans h1,f.trans h2,g.trans b⟩)
  exact .inr (.inr ⟨a.trans h1,h2,f.trans b⟩)
 rcases h.k with h1 | ⟨h1,h2,b⟩ | ⟨h1,h2,b⟩
 ·omega
 ·exact .inr (.inr ⟨a,h1.symm.trans f,g⟩)
 omega
theorem ES.ex {c e:Cn}(sd:ES c e)(now:Int)(h1:(c.shut=false->c.st=3\/c.st=6)->c.shut=false->e.st=3\/e.st=6)(h2:(c.st=5\/c.st=9->c.last<c.fM)->e.st=5\/e.st=9->c.last<c.fM):Ex True c e now:=by
 have el:e.last=c.last:=by unfold Cn.last;rw[sd.held,sd.base]
 have b:e.fM=c.fM:=by unfold Cn.fM;rw[sd.sc]
 exact⟨Mr sd.AC.symm,fun g=>sd.shut.trans g,fun g=>⟨fun a=>h1 g.sf (sd.shut.symm.trans a),fun a=>by rw[el,b];exact h2 g.fa a,by rw[el,b,sd.base];exact g.ub⟩,fun _ _ _ _=>sd.dl,fun g=>⟨by rw[sd.tries];exact g.t0,by rw[sd.tries,sd.tm];exact g.bk,by rw[sd.tries];exact g.cw,by rw[sd.dl,sd.tries];exact g.dl⟩,fun g a=>by rw[sd.dl]at a|-;exact g trivial a⟩
theorem Pre.same {c e:Cn}(now:Int)(sd:ES c e)(b:FN c e)(d:e.st=c.st\/(c.shut=true/\e.st≠5/\e.st≠9)):Pre True c e now:=by
 have f:=cE b.fx;exact⟨by unfold Cn.fM;rw[sd.sc];exact L9 _,by unfold Cn.next;rw[sd.sc],by rw[sd.lim];exact L9 _,KZ,sd.cf,fun i hi=>by rw[b.fx.bx];exact hi,by rw[f.1];exact L9 _,b.fx.tq,b.ann,.inr (.inl ⟨b.pend,b.pd,f.1⟩),sd.ex now (fun g a=>by rcases d with e | ⟨e,-⟩;rw[e];exact g a;rw[e]at a;cases a) (fun g a=>by rcases d with e | ⟨-,h,j⟩;exact g (by rw[<-e];exact a);omega)⟩
theorem Pre.gB {K:Prop}{c e:Cn}{now:Int}(h:Pre K c e now):Pre K c e.gB now:=⟨h.fM,h.nx,h.lim,h.last,h.cf,h.has,h.exp,h.tq,h.ann,.inl Z,⟨h.ex.AC,h.ex.sh,fun g=>⟨(h.ex.ci g).sf,(h.ex.ci g).fa,(h.ex.ci g).ub⟩,h.ex.keep,fun g=>⟨(h.ex.ni g).t0,(h.ex.ni g).bk,(h.ex.ni g).cw,(h.ex.ni g).dl⟩,h.ex.nd⟩⟩
theorem zT {c:Cn}(ok:c.Ok)(hr:aV c.st=true){now off:Int}{s:Sg}(h0:0<=off)(h1:off<=100000){N:Int}(he:c.ended=true->c.ox=N)(L:off+s.s.length<=N)(hf:s.fin=true->off+s.s.length=N)(I:∀i,c.bx.has i->i<N)(J:c.over=true->c.reached=true) :
  Pre True c ((c.store now s off).qb now s off) now/\(∀i,off<=i->i<off+s.s.length->i<c.most->((c.store now s off).qb now s off).bx.has i) /\
  (s.fin=true->((c.store now s off).qb now s off).ended=true)/\(s.s≠[]\/(((c.store now s off).qb now s off).reached=true/\c.over=false)->((c.store now s off).qb now s off).pend≠0) /\
  ES c ((c.store now s off).qb now s off)/\(((c.store now s off).qb now s off).st=c.st\/(gb c.st 6=some ((c.store now s off).qb now s off).st/\((c.store now s off).qb now s off).reached=true)) /\
  (((c.store now s off).qb now s off).reached=true->((c.store now s off).qb now s off).over=true/\(c.over=false->∀n,gb c.st 6=some n->((c.store now s off).qb now s off).st=n))/\(((c.store now s off).qb now s off).ended=true->((c.store now s off).qb now s off).ox=N) /\
  (∀i,((c.store now s off).qb now s off).bx.has i->i<N)/\(((c.store now s off).qb now s off).over=true->((c.store now s off).qb now s off).reached=true) /\
  (∀i,((c.store now s off).qb now s off).bx.has i->c.bx.has i\/(off<=i/\i<off+s.s.length))/\(((c.store now s off).qb now s off).ended=true->c.ended=true\/s.fin=true):=by
 have t:=vI ok hr (now:=now) (off:=off) (s:=s) h0 O (fun h=>by rw[he h];exact L);have g:=yD (c.store now s off) now s off;generalize c.store now s off=x at t g;generalize x.qb now s off=y at g|-
 have A:x.bx.nx<=N:=by
  have r0:=t.ok.Do;have r1:=t.ok.xK;by_cases hz:x.bx.nx<=0
  ·have:=ok.bx.Do;by_cases w:0<N
   ·omega
   omega
  have:=(t.has (x.bx.nx-1)).1 (.inl O)
  rcases this with h | h
  ·have:=I _ h;omega
  omega
 have B:y.ended=true->y.ox=N:=fun h=>by
  rcases g.ended with⟨a,b,-⟩ | ⟨a,b,z,d⟩
  ·rw[b,t.ox];exact he (by rw[<-t.ended,<-a];exact h)
  rw[d];exact hf a
 have M:c.expected<=y.expected:=by
  refine zS (by rw[g.bx];exact t.nx) (fun h=> ?_);have K:x.ended=true:=by rw[t.ended];exact h
  rcases g.ended with⟨a,b,-⟩ | ⟨a,b,-⟩
  ·exact⟨a.trans K,b.trans t.ox,by rw[g.bx,he h];exact A⟩
  rw[K]at b;cases b
 have sd:=t.sd.trans g.sd
 have p:y.st=c.st\/gb c.st 6=some y.st:=by
  rcases g.pn with⟨-,-,-,j,-⟩ | ⟨-,-,-,-,l,-⟩
  ·exact .inl (j.trans t.st)
  rcases l with l | l
  ·exact .inl (l.trans t.st)
  exact .inr (by rw[<-t.st];exact l)
 refine⟨⟨by unfold Cn.fM;rw[sd.sc];exact L9 _,by unfold Cn.next;rw[sd.sc],by rw[sd.lim];exact L9 _,KZ,sd.cf,fun i hi=>by rw[g.bx];exact(t.has i).2 (.inl hi),M,g.tq.trans t.tq,g.ann.trans t.ann,?_,sd.ex now (fun q a=> ?_) (fun q a=> ?_)⟩,fun i P S T=>by rw[g.bx];exact(t.has i).2 (.inr ⟨P,S,T⟩),fun h=> ?_,fun h=> ?_,sd,?_,fun h=> ?_,B,fun i hi=> ?_,fun h=> ?_,fun i hi=> ?_,fun h=> ?_⟩
 ·rcases g.pn with⟨p1,m,r,-,j⟩ | ⟨p1,-⟩
  ·rcases t.pn with⟨o,C,E⟩ | q | ⟨o,C,E⟩
   ·refine .inr (.inl ⟨p1.trans C,m.trans E,?_⟩)
    have U:∀i,y.bx.has i↔c.bx.has i:=fun i=>by
     rw[g.bx,t.has i,o]
     simp
     omega
    have F:y.bx.nx=c.bx.nx:=by
     have G:=ok.bx;have V:=t.ok;rw[g.bx];have W:=G.FD;have z2:=V.FD;have n1:=G.Do;have n2:=G.xK;have n3:=t.nx
     rcases(show x.bx.nx=c.bx.nx\/c.bx.nx<x.bx.nx by omega)with e | e
     ·exact e
     exfalso
     apply W
     have:=(U c.bx.nx).1 (by rw[g.bx];exact .inl O);exact this
    -- the end cannot be new: a FIN that ends at what was expected makes the stream reached
    unfold Cn.expected
    cases hy:y.reached with
    | false =>
     have w:c.reached=false:=by
      cases hcr:c.reached with
      | false=>rfl
      | true =>
       exfalso
       unfold Cn.reached at hcr hy;rw[Ly,Lh]at hcr;have X:=he hcr.1
       have:y.ended=true:=by
        rcases g.ended with⟨a,-,-⟩ | ⟨-,-,a,-⟩
        ·rw[a,t.ended];exact hcr.1
        exact a
       have k2:=B this;rw[this,F,k2,hcr.2,X]at hy
       simp at hy
     rw[w]
     simpa using F
    | true =>
     have u:=j hy;rw[t.over]at u;rw[J u]
     simpa using F
   ·exact .inl (p1.trans q)
   exact .inr (.inr ⟨p1.trans o,C,m.trans E⟩)
  exact .inl p1
 ·rcases p with e | e
  ·rw[e];exact q a
  rcases q a with f | f
  ·rw[f]at e;have e2:(6:Int)=y.st:=MY e;omega
  rw[f]at e;cases e
 ·rcases p with e | e
  ·exact q (by rw[<-e];exact a)
  rcases uW e hr with f | f | f
  ·omega
  ·omega
  exact q (.inl f.1)
 ·rcases g.ended with⟨a,b,z⟩ | ⟨a,b,z,d⟩
  ·rcases z h with k | k | k
   ·rw[a];exact k
   ·have:=hf h;omega
   rw[t.st,hr]at k;cases k
  exact z
 ·rcases g.pn with⟨p1,m,r,-,j⟩ | ⟨p1,-⟩
  ·rw[p1]
   rcases h with h | ⟨h,h2⟩
   ·rcases t.pn with⟨o,-⟩ | q | ⟨o,-⟩
    ·exact absurd o h
    ·omega
    omega
   have:=j h;rw[t.over,h2]at this
   cases this
  omega
 ·rcases g.pn with⟨-,-,-,j,-⟩ | ⟨-,m,-,-,l,-⟩
  ·exact .inl (j.trans t.st)
  rcases l with l | l
  ·exact .inl (l.trans t.st)
  exact .inr ⟨by rw[<-t.st];exact l,m⟩
 ·rcases g.pn with⟨-,-,r,-,j⟩ | ⟨-,-,-,j,-,p6⟩
  ·have:=j h;refine⟨r.trans this,fun w=> ?_⟩;rw[t.over,w]at this
   cases this
  exact⟨j,fun _ n hn=>p6 n (by rw[t.st];exact hn)⟩
 ·rw[g.bx]at hi
  rcases(t.has i).1 hi with k | k
  ·exact I i k
  omega
 ·rcases g.pn with⟨-,-,r,-,-⟩ | ⟨-,m,-⟩
  ·rw[r,t.over]at h;have hr:=J h;unfold Cn.reached at hr|-;rw[Ly,Lh]at hr|-
   rcases g.ended with⟨a,b,-⟩ | ⟨a,b,-⟩
   ·have hy:y.ended=true:=a.trans (t.ended.trans hr.1);refine⟨hy,?_⟩;have h1:=B hy;have h2:=t.nx;have h3:=he hr.1;rw[g.bx,h1];omega
   rw[t.ended,hr.1]at b
   cases b
  exact m
 ·rw[g.bx]at hi
  rcases(t.has i).1 hi with k | k
  ·exact .inl k
  exact .inr ⟨k.1,k.2.1⟩
 rcases g.ended with⟨a,-,-⟩ | ⟨a,-⟩
 ·exact .inl (by rw[<-t.ended,<-a];exact h)
 exact .inr a
structure Hv (c:Cn)(N:Int):Prop where
 ok:c.Ok
 bu:c.base<=max c.fM 1
 nl:c.next<=c.last+(if c.shut=true then 1 else 0)
 fe:c.ended=true->c.ox=N
 hb:∀i,c.bx.has i->i<N
 ov:c.over=true->c.reached=true
 vo:c.reached=true->c.over=true
 st:6<=c.st->c.over=true
 ts:c.over=true->c.st=0\/6<=c.st
 n0:0<=N
theorem Hv.nx {c:Cn}{N:Int}(h:Hv c N):c.bx.nx<=N:=by
 have a:=h.ok.bx.Do;by_cases hz:c.bx.nx<=0
 ·have:=h.n0;omega
 have:=h.hb (c.bx.nx-1) (.inl O);omega
theorem Hv.over {c:Cn}{N:Int}(h:Hv c N)(ho:c.over=true):c.bx.nx=N:=by
 have a:=h.ov ho;unfold Cn.reached at a;rw[Ly,Lh]at a;rw[a.2,h.fe a.1]
structure Tl (c e:Cn)(now:Int)(s:Sg)(off a N:Int):Prop where
 pre:Pre True c e now
 fM:e.fM=a
 lim:e.limit=max c.limit (a+s.win)
 AC:e.largest=max c.largest s.win
 last:e.last=c.last
 has:off+s.s.length<=c.most->∀i,off<=i->i<off+s.s.length->e.bx.has i
 fin:s.fin=true->e.ended=true
 GL:∀i,e.bx.has i->c.bx.has i\/(off<=i/\i<off+s.s.length)
 GM:e.ended=true->c.ended=true\/s.fin=true
 pn:s.s≠[]\/(e.reached=true/\c.over=false)->e.pend≠0
 hv:Hv e N
 so:F6 e
 tries:e.tries=0
 st:(e.st=c.st\/3<=e.st\/(c.st=8/\c.last<a/\e.st=0))
 shut:e.shut=c.shut
 room:e.room=c.room
 gi:e.gi=c.gi
theorem uY {c:Cn}{N:Int}(h:Hv c N){now:Int}(G:aI now){s:Sg}(hs:s.Ok){off a:Int}(u:3<=c.st)(ha:c.fM<=a)(h1:1<=a)(h2:a<=c.next)(h0:0<=off)(ho:off<=100000)(hN:off+s.s.length<=N)(hf:s.fin=true->off+s.s.length=N) :
  Tl c (((c.go now s a).store now s off).qb now s off) now s off a N:=by
 have ok:=h.ok;have l:=ok.st;have k:=kt (c:=c) now s ha O h2
 have o:=(ok.go G hs (ack:=a) (by
      have:=ok.fM;have:=ok.b1;have:=h.nl;have:(if c.shut=true then(1:Int)else 0)<=1:=Jv
      omega)).1
 have an:=ok.tail G hs (off:=off) (ack:=a) O (by
       have:=ok.b1;have:=h.nl;have:(if c.shut=true then(1:Int)else 0)<=1:=Jv
       omega)
 generalize c.go now s a=d at k o an|-;have hx:=cE k.rv.fx;have w:d.reached=c.reached:=by unfold Cn.reached;rw[k.rv.fx.bx,k.rv.fx.ended,k.rv.fx.ox]
 have bc:d.base<=a:=by have:=k.base;have:=h.bu;omega
 have y:∀e:Cn,ES d e->F6 e:=fun e sd=>by
  have t:e.fM=a:=by rw[<-k.fM];unfold Cn.fM;rw[sd.sc]
  have z:e.last=c.last:=by rw[<-k.last];unfold Cn.last;rw[sd.held,sd.base]
  have A:e.next=c.next:=by rw[<-k.next];unfold Cn.next;rw[sd.sc]
  exact⟨O,by rw[t,sd.base];exact bc,by rw[A,z,sd.shut,k.shut];exact h.nl⟩
 have E:d.most=c.most:=by unfold Cn.most;rw[k.rv.fx.bx]
 by_cases f:aV d.st=true
 ·obtain⟨I,J,K,L,j,m,B,M,P,F,S,bI⟩:=zT o f (now:=now) (off:=off) (s:=s) h0 ho (N:=N) (fun g=>by rw[k.rv.fx.ox];exact h.fe Kn) hN hf (fun i hi=>h.hb i Ko) (fun g=>by rw[w];exact h.ov (by rw[<-k.rv.over];exact g));generalize (d.store now s off).qb now s off=e at I J K L j m B M P F S bI an|-;have b:d.over=c.over:=k.rv.over
  have bd:c.over=false:=by
   cases hq:c.over with
   | false=>rfl
   | true =>
    exfalso
    have f:=LJ f
    rcases h.ts hq with g | g
    ·omega
    rcases k.st with T | ⟨-,T⟩
    ·omega
    rcases eU T ⟨u,l.2⟩with g3 | g3 | g3 <;> omega
  refine⟨(k.pre ha now).trans I,?_,?_,?_,?_,fun g i U V=>J i U V (by rw[E];omega),K,fun i hi=>by have h1:=S i hi;rw[k.rv.fx.bx]at h1;exact h1,fun g=>by have h1:=bI g;rw[k.rv.fx.ended]at h1;exact h1,fun g=>L (by rw[b];exact g),?_,y e j,by rw[j.tries];exact k.tries,?_,j.shut.trans k.shut,j.room.trans k.rv.room,j.gi.trans k.gi⟩
  ·rw[<-k.fM];unfold Cn.fM;rw[j.sc]
  ·rw[j.lim];exact k.lim
  ·rw[j.AC];exact k.AC
  ·rw[<-k.last];unfold Cn.last;rw[j.held,j.base]
  ·have so:=y e j;refine⟨an,by have:=so.bu;have:=so.u1;omega,so.nl,M,P,F,fun g=>(B g).1,fun g=> ?_,fun g=> ?_,h.n0⟩
   ·rcases m with m | ⟨-,m⟩
    ·have f:=LJ f;omega
    exact(B m).1
   obtain⟨n,n1,n2⟩:=zR f;have:=(B (F g)).2 (by rw[b];exact bd) n n1;exact .inr O
  have f:=LJ f
  rcases m with m | ⟨m,-⟩
  ·rcases k.st with g | ⟨-,g⟩
   ·exact .inl (m.trans g)
   rcases eU g ⟨u,l.2⟩with g3 | g3 | g3 <;> exact .inr (.inl O)
  rcases uW m (Lc f)with g3 | g3 | g3 <;> exact .inr (.inl O)
 -- the HU end has been seen: nothing more is taken
 have f:aV d.st=false:=JC
 have h6:6<=c.st:=by
  have f:=Nb f
  rcases k.st with g | ⟨-,g⟩
  ·omega
  rcases eU g ⟨u,l.2⟩with g3 | g3 | g3 <;> omega
 have b:=h.st h6;have a0:=h.over b;have C:=h.ov b;have cF:=ok.bx.Do
 have W:d.st=c.st\/3<=d.st\/(c.st=8/\c.last<a/\d.st=0):=by
  rcases k.st with g | ⟨g1,g⟩
  ·exact .inl g
  rcases eU g ⟨u,l.2⟩with g3 | g3 | g3
  ·omega
  ·exact .inr (.inl O)
  exact .inr (.inr ⟨g3.1,g1.2,g3.2⟩)
 have X:∀x:Cn,x.Ok->ES d x->x.bx=d.bx->x.ended=d.ended->x.ox=d.ox->x.over=d.over->x.st=d.st->Hv x N:=fun x xo sd t z A e4 e5=>by
  have so:=y x sd;have xr:x.reached=c.reached:=by rw[<-w];unfold Cn.reached;rw[t,z,A]
  have xv:x.over=c.over:=e4.trans k.rv.over;refine⟨xo,by have:=so.bu;have:=so.u1;omega,so.nl,fun g=>by rw[A,k.rv.fx.ox];exact h.fe (by rw[<-k.rv.fx.ended,<-z];exact g),fun i hi=>h.hb i (by rw[<-k.rv.fx.bx,<-t];exact hi),fun g=>by rw[xr];exact C,fun g=>by rw[xv];exact b,fun g=>by rw[xv];exact b,fun g=> ?_,h.n0⟩;rw[e5]
  rcases k.st with g | ⟨-,g⟩
  ·exact .inr O
  rcases eU g ⟨u,l.2⟩with g3 | g3 | g3
  ·omega
  ·exact .inr O
  exact .inl g3.2
 have p:∀x:Cn,aV x.st=false->x.over=true->x.qb now s off=x:=fun x x1 x2=>by
  unfold Cn.qb;dsimp only;rw[show(if s.fin=true/\aV x.st=true/\x.ended=false/\x.bx.nx<=off+s.s.length then { x with ended:=true,ox:=off+s.s.length }else x)=x from L5 (fun g=>by rw[x1]at g;cases g.2.1),L5 (fun g=>by rw[x2]at g;cases g.2)]
 have q:∀x:Cn,x.bx=d.bx->∀i,off<=i->i<off+s.s.length->x.bx.has i:=fun x t i U V=>by
  rw[t,k.rv.fx.bx];exact .inl O
 have r:d.ended=true:=by
  unfold Cn.reached at C;rw[Ly]at C;rw[k.rv.fx.ended];exact C.1
 by_cases hz:s.s=[]
 ·have e:(d.store now s off).qb now s off=d:=by
   unfold Cn.store;rw[L7 hz];exact p d f (k.rv.over.trans b)
  rw[e];exact⟨k.pre ha now,k.fM,k.lim,k.AC,k.last,fun _=>q d Z,fun _=>r,fun i hi=>.inl Ko,fun g=>.inl Kn,fun g=>(by rcases g with g | ⟨-,g⟩;exact absurd hz g;rw[b]at g;cases g),X d o (.refl d) Z Z Z Z Z,y d (.refl d),k.tries,W,k.shut,k.rv.room,k.gi⟩
 have e:(d.store now s off).qb now s off=d.gB:=by
  unfold Cn.store;rw[L5 hz,L5 (by rw[f];decide)];exact p d.gB f (k.rv.over.trans b)
 rw[e];have sd:ES d d.gB:=⟨Z,Z,Z,Z,Z,Z,Z,Z,Z,Z,Z,Z⟩;exact⟨(k.pre ha now).gB,k.fM,k.lim,k.AC,k.last,fun _=>q d.gB Z,fun _=>r,fun i hi=>.inl Ko,fun g=>.inl Kn,fun _=>by show(2:Int)≠0;decide,X d.gB o.gB sd Z Z Z Z Z,y d.gB sd,k.tries,W,k.shut,k.rv.room,k.gi⟩
structure Hs (c:Cn):Prop where
 ov:c.over=true->c.reached=true
 vo:c.reached=true->c.over=true
 st:6<=c.st->c.over=true
 ts:c.over=true->c.st=0\/6<=c.st
theorem Hv.hs {c:Cn}{N:Int}(h:Hv c N):Hs c:=⟨h.ov,h.vo,h.st,h.ts⟩
theorem cu {c d:Cn}(f:Fx c d):d.reached=c.reached:=by unfold Cn.reached;rw[f.bx,f.ended,f.ox]
theorem Hs.fx {c d:Cn}(h:Hs c)(f:Fx c d)(ho:d.over=c.over)(hs:d.st=c.st):Hs d:=by
 have e:=cu f;exact⟨fun g=>by rw[e];exact h.ov (by rw[<-ho];exact g),fun g=>by rw[ho];exact h.vo (by rw[<-e];exact g),fun g=>by rw[ho];exact h.st (by rw[<-hs];exact g),fun g=>by rw[hs];exact h.ts (by rw[<-ho];exact g)⟩
theorem Hs.push {c:Cn}(h:Hs c)(now:Int):Hs (c.push now).1:=h.fx (bA c now) (io c now).1.over (dA c now)
structure Rc (c d:Cn)(l:List Sg)(now:Int)(s:Sg)(off a N:Int):Prop where
 sv:SV c d l
 rv:RV c d l now
 fM:d.fM=a
 lim:d.limit=max c.limit (a+s.win)
 last:d.last=c.last
 has:off+s.s.length<=c.ann->∀i,off<=i->i<off+s.s.length->d.bx.has i
 fin:s.fin=true->c.bx.nx<c.ann->off<c.ann->d.ended=true
 GL:∀i,d.bx.has i->c.bx.has i\/(off<=i/\i<off+s.s.length)
 GM:d.ended=true->c.ended=true\/s.fin=true
 resp:s.s≠[]\/(s.fin=true/\c.bx.nx=N)->l≠[]\/d.pend=1
 hs:Hs d
 tries:d.tries=0
 st:d.st=c.st\/3<=d.st
 xv:XV True c d now
 AC:d.largest=max c.largest s.win
theorem lZ {c:Cn}{off n:Int}(hr:c.reached=false)(h1:off<c.ann)(h2:c.bx.nx<c.ann)(a:c.bx.nx<off+n)(b:0<n):c.accepts off n=true:=by
 have he:c.expected=c.bx.nx:=by unfold Cn.expected;rw[hr];rfl
 unfold Cn.accepts;rw[he];rw[L5 O,L5 O,L5 O];exact Lc a
theorem nN {c:Cn}{N:Int}(h:Hv c N){now:Int}(G:aI now){s:Sg}(hs:s.Ok){off a:Int}(m:HJ c s off a)(I:3<=c.st)(ha:c.fM<=a)(h1:1<=a)(h2:a<=c.next)(h0:0<=off)(ho:off<=100000)(E:(off+s.s.length<=N/\(s.fin=true->off+s.s.length=N))\/(s.s=[]/\s.fin=false)) :
  (c.st=8/\c.last<a/\(c.receive now s).1.st=0/\(c.receive now s).1.reached=true)\/Rc c (c.receive now s).1 (c.receive now s).2 now s off a N:=by
 have ok:=h.ok;have u:=ok.st;have T:=tR m.syn;have cL:aj s=(s.s.length:Int)\/aj s=s.s.length+1:=by rw[T];split <;> omega
 have J:c.receive now s=if c.accepts off (aj s)=false then c.stray now s else c.process now s off:=by
  unfold Cn.receive;rw[L5 O,L5 L0,L5 O];unfold Cn.ys;dsimp only;rw[m.off,L5 (fun g=>by rw[m.qa]at g;cases g.1),L5 (fun g=>by rw[m.qa]at g;cases g.1)]
  rw[show(if s.qa=true\/s.syn=true then c.gB.push now else if s.has=false then(c,[])else c.process now s off)=c.process now s off from by
   rw[L5 (fun g=>by rw[m.qa,m.syn]at g;rcases g with g | g <;> cases g),L5 (by rw[m.has];decide)]]
 rw[J]
 -- one push at the end
 have fin:∀e:Cn,Pre True c e now->e.fM=a->e.limit=max c.limit (a+s.win)->e.last=c.last->e.largest=max c.largest s.win->e.Ok->F6 e->Hs e->e.tries=0->(e.st=c.st\/3<=e.st)->(off+s.s.length<=c.ann->∀i,off<=i->i<off+s.s.length->e.bx.has i)->(s.fin=true->c.bx.nx<c.ann->off<c.ann->e.ended=true)->(∀i,e.bx.has i->c.bx.has i\/(off<=i/\i<off+s.s.length))->(e.ended=true->c.ended=true\/s.fin=true)->(s.s≠[]\/(s.fin=true/\c.bx.nx=N)->e.pend≠0)->Rc c (e.push now).1 (e.push now).2 now s off a N:=by
  intro e p U e2 e3 a0 e4 e5 e6 e7 e8 e9 a1 a2 a3 a4;obtain⟨g1,n,l,g4,g5,g6,g7,g8,g9,a5⟩:=p.push e4 G O (fun _=>e5);have f:=bA e now;refine⟨g1,n,l.trans U,g4.trans e2,g5.trans e3,fun a b z q=>(g6 b).2 (e9 a b z q),fun a b d=>f.ended.trans (a1 a b d),fun i hi=>a2 i ((g6 i).1 hi),fun g=>a3 (by rw[<-f.ended];exact g),fun a=> ?_,e6.push now,?_,by rw[dA];exact e8,g9,a5.trans a0⟩
  ·have k:=a4 a;obtain⟨s1,s2⟩:=gL e4 G O
   rcases s1.k with⟨k1,k2,k3,k4⟩ | ⟨k1,-⟩
   ·refine .inr ?_;have:=e4.pend;omega
   exact .inl k1
  rw[(io e now).1.tries];exact e7
 have cM:=ok.FH;have bn:=ok.bx.Do;have c3:=h.nx;split
 ·rename_i j
  -- not acceptable: all of it is there
  have A:off+s.s.length<=c.ann->∀i,off<=i->i<off+s.s.length->c.bx.has i:=fun g i z q=>by
   have V:off+s.s.length<=N:=by
    rcases E with⟨V,-⟩ | ⟨p1,-⟩
    ·exact V
    rw[p1]at q
    simp at q
    omega
   cases hr:c.reached with
   | true =>
    have:=h.over (h.vo hr);exact .inl O
   | false =>
    by_cases hw:c.bx.nx<c.ann
    ·by_cases B:c.bx.nx<off+aj s
     ·rw[lZ hr O hw B O]at j
      cases j
     exact .inl O
    exact .inl O
  have C:s.fin=true->c.bx.nx<c.ann->off<c.ann->c.ended=true:=fun g1 n l=>by
   cases hr:c.reached with
   | true =>
    unfold Cn.reached at hr;rw[Ly]at hr;exact hr.1
   | false =>
    have:off+s.s.length=N:=by
     rcases E with⟨-,hf⟩ | ⟨-,K⟩
     ·exact hf g1
     rw[K]at g1;cases g1
    rw[T,L7 g1]at j;rw[lZ hr l n O O]at j
    cases j
  have k:=kt (c:=c) now s ha O h2
  have F:=(ok.go G hs (ack:=a) (by
       have:=ok.fM;have:=ok.b1;have:=h.nl;have:(if c.shut=true then(1:Int)else 0)<=1:=Jv
       omega)).1
  have bo:bU c.st=true:=Lc ⟨I,u.2⟩;unfold Cn.stray;dsimp only;rw[m.ack,show(if bU c.st=true/\s.has=true/\s.syn=false/\c.fM<=a/\a<=c.next then c.go now s a else c)=c.go now s a from L7 ⟨bo,m.has,m.syn,ha,h2⟩];generalize c.go now s a=d at k F|-;have B:=cE k.rv.fx
  have hd:d.st=c.st\/3<=d.st\/(c.st=8/\c.last<a/\d.st=0):=by
   rcases k.st with g | ⟨g1,g⟩
   ·exact .inl g
   rcases eU g ⟨I,u.2⟩with l | l | l
   ·exact .inr (.inl O)
   ·exact .inr (.inl O)
   exact .inr (.inr ⟨l.1,g1.2,l.2⟩)
  have L:Hs d:=by
   have w:=cu k.rv.fx;refine⟨fun g=>by rw[w];exact h.ov (by rw[<-k.rv.over];exact g),fun g=>by rw[k.rv.over];exact h.vo (by rw[<-w];exact g),fun g=> ?_,fun g=> ?_⟩
   ·rw[k.rv.over]
    rcases k.st with n | ⟨-,n⟩
    ·exact h.st O
    rcases eU n ⟨I,u.2⟩with l | l | l
    ·omega
    ·exact h.st O
    omega
   rw[k.rv.over]at g;have:=h.ts g
   rcases k.st with n | ⟨-,n⟩
   ·omega
   rcases eU n ⟨I,u.2⟩with l | l | l <;> omega
  have W:F6 d:=⟨by rw[k.fM];exact h1,by have:=k.base;have:=h.bu;rw[k.fM];omega,by rw[k.next,k.last,k.shut];exact h.nl⟩;by_cases r:d.st=0
  ·have M:c.st=8/\c.last<a:=by rcases hd with g | g | g <;> omega
   refine .inl ⟨M.1,M.2,?_⟩;have y:=h.st O
   have b0:∀x:Cn,x.st=0->x.reached=c.reached->(x.push now).1.st=0/\(x.push now).1.reached=true:=fun x U e2=>by
    unfold Cn.push;rw[L7 U];exact⟨U,e2.trans (h.ov y)⟩
   rw[show(if d.st=9/\s.fin=true then { d with per:=.wA now 60 }else d)=d from L5 O];split
   ·exact b0 d.gB r (show d.reached=c.reached from cu k.rv.fx)
   exact b0 d r (cu k.rv.fx)
  refine .inr ?_;have P:d.st=c.st\/3<=d.st:=by rcases hd with g | g | g;exact .inl g;exact .inr g;omega
  have kb:∀b:Cn,(b=d\/b={ d with per:=.wA now 60 })->Rc c ((if 0<aj s then b.gB else b).push now).1 ((if 0<aj s then b.gB else b).push now).2 now s off a N:=by
   intro b hb
   have a6:Pre True c b now/\b.fM=a/\b.limit=max c.limit (a+s.win)/\b.last=c.last/\b.largest=max c.largest s.win/\b.Ok/\F6 b/\Hs b/\b.tries=0/\(b.st=c.st\/3<=b.st)/\b.bx=c.bx/\b.ended=c.ended:=by
    rcases hb with rfl | rfl
    ·exact⟨k.pre ha now,k.fM,k.lim,k.last,k.AC,F,W,L,k.tries,P,k.rv.fx.bx,k.rv.fx.ended⟩
    exact⟨(k.pre ha now).trans (.same now ⟨Z,Z,Z,Z,Z,Z,Z,Z,Z,Z,Z,Z⟩ ⟨⟨Z,Z,Z,Z⟩,Z,Z,Z,Z,Z⟩ (.inl Z)),k.fM,k.lim,k.last,k.AC,{ F with per:=Al.zv G D D },⟨W.u1,W.bu,W.nl⟩,⟨L.ov,L.vo,L.st,L.ts⟩,k.tries,P,k.rv.fx.bx,k.rv.fx.ended⟩
   obtain⟨b1,b2,b3,b4,bl,b5,X,S,b8,b9,ab,ac⟩:=a6;split
   ·exact fin b.gB b1.gB b2 b3 b4 bl b5.gB ⟨X.u1,X.bu,X.nl⟩ ⟨S.ov,S.vo,S.st,S.ts⟩ b8 b9 (fun g i z q=>by show b.bx.has i;rw[ab];exact A g i z q) (fun g1 n l=>by show b.ended=true;rw[ac];exact C g1 n l) (fun i hi=>.inl (by have h1:b.bx.has i:=hi;rw[ab]at h1;exact h1)) (fun g=>.inl (by have h1:b.ended=true:=g;rw[ac]at h1;exact h1)) (fun _=>by show(2:Int)≠0;decide)
   rename_i hz;refine fin b b1 b2 b3 b4 bl b5 X S b8 b9 (fun g i z q=>by rw[ab];exact A g i z q) (fun g1 n l=>by rw[ac];exact C g1 n l) (fun i hi=>.inl (by rw[<-ab];exact hi)) (fun g=>.inl (by rw[<-ac];exact g)) (fun g=> ?_)
   exfalso
   rcases g with g | g
   ·have:=List.length_pos_iff.2 g;omega
   rw[T,L7 g.1]at hz;omega
  by_cases h9:d.st=9/\s.fin=true
  ·rw[show(if d.st=9/\s.fin=true then { d with per:=.wA now 60 }else d)={ d with per:=.wA now 60 }from L7 h9];exact kb _ (.inr Z)
  rw[show(if d.st=9/\s.fin=true then { d with per:=.wA now 60 }else d)=d from L5 h9];exact kb _ (.inl Z)
 rename_i j
 have a7:∃o:Int,0<=o/\o<=100000/\o+s.s.length<=N/\(s.fin=true->o+s.s.length=N)/\((c.go now s a).store now s off).qb now s off=((c.go now s a).store now s o).qb now s o/\(o=off\/(s.s=[]/\s.fin=false)):=by
  rcases E with⟨V,hf⟩ | ⟨p1,K⟩
  ·exact⟨off,h0,ho,V,hf,Z,.inl Z⟩
  refine⟨0,O,O,by rw[p1];simpa using h.n0,(fun g=>by rw[K]at g;cases g),?_,.inr ⟨p1,K⟩⟩;unfold Cn.qb Cn.store;rw[p1,K]
  simp
 obtain⟨o,o1,o2,o3,o4,oe,od⟩:=a7;have t:=uY h G hs I ha h1 h2 o1 o2 o3 o4
 have bv:c.process now s off=(((c.go now s a).store now s off).qb now s off).push now:=by
  unfold Cn.process;dsimp only;rw[m.ack,L5 O,L5 O]
 rw[bv,oe];generalize ((c.go now s a).store now s o).qb now s o=e at t|-;by_cases r:e.st=0
 ·have M:c.st=8/\c.last<a:=by rcases t.st with g | g | g <;> omega
  refine .inl ⟨M.1,M.2,?_⟩;have y:=h.st O;unfold Cn.push;rw[L7 r];refine⟨r,?_⟩;have B:=t.pre.exp;have c0:=h.ov y;have cS:=t.hv.nx;have cT:=h.over y;unfold Cn.expected at B;rw[L7 c0]at B;split at B
  ·rename_i g;exact g
  omega
 refine .inr (fin e t.pre t.fM t.lim t.last t.AC t.hv.ok t.so t.hv.hs t.tries (by rcases t.st with g | g | g;exact .inl g;exact .inr g;omega) (fun g i z q=>by
  rcases od with rfl | ⟨p1,-⟩
  ·exact t.has O i z q
  ·rw[p1]at q;simp at q;omega) (fun g1 _ _=>t.fin g1) (fun i hi=>(t.GL i hi).imp id fun k=>by
  rcases od with rfl | ⟨p1,-⟩
  ·exact k
  rw[p1]at k;simp at k;omega) t.GM (fun g=> ?_))
 rcases g with g | ⟨g1,n⟩
 ·exact t.pn (.inl g)
 obtain rfl:o=off:=by
  rcases od with g | ⟨-,g⟩
  ·exact g
  rw[g]at g1;cases g1
 by_cases hz:s.s=[]
 ·refine t.pn (.inr ⟨?_,?_⟩)
  ·have he:=t.fin g1;have bz:=t.hv.nx;have B:=t.pre.exp;have c4:c.bx.nx<=c.expected:=by unfold Cn.expected;split <;> omega
   cases hr:e.reached with
   | true=>rfl
   | false =>
    have c5:e.expected=e.bx.nx:=by unfold Cn.expected;rw[hr];rfl
    unfold Cn.reached at hr;rw[he,t.hv.fe he]at hr
    simp at hr
    omega
  cases hq:c.over with
  | false=>rfl
  | true =>
   exfalso
   have hlen:=o4 g1;have B:=h.over hq;have w:=h.ov hq
   apply j
   have c1:c.expected=c.bx.nx+1:=by unfold Cn.expected;rw[L7 w]
   have c2:aj s=1:=by rw[T,L7 g1,hz];rfl
   have c6:s.s.length=0:=by rw[hz];rfl
   rw[c2];unfold Cn.accepts;rw[c1,L5 O];split
   ·rfl
   rw[L5 O];exact Lf O
 exact t.pn (.inl hz)
end Go.Proofs.YtcmncipikdpnbaaGreatDoor
