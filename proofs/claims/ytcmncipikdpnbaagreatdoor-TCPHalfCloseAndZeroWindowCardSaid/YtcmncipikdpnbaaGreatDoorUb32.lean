import Derived.Test.YtcmncipikdpnbaaGreatDoorUb9
import Derived.Test.YtcmncipikdpnbaaGreatDoorUb31
namespace Go.Proofs.YtcmncipikdpnbaaGreatDoor
section
theorem zC {kc:Int}{off:Nat}(h:off<=100000):aE (aw kc off) (aw kc 1)=(off:Int)-1:=by unfold aE aw;omega
theorem wS (c:Cn)(now:Int)(s:Sg)(off:Int):(c.store now s off).tq=c.tq:=by
 unfold Cn.store;split
 ·rfl
 split
 ·split
  ·unfold Cn.rl;split <;> rfl
  rfl
 rfl
theorem zD (c:Cn)(now:Int)(s:Sg)(off:Int):(c.qb now s off).tq=c.tq:=by
 unfold Cn.qb;dsimp only;have h1:(if s.fin=true/\aV c.st=true/\c.ended=false/\c.bx.nx<=off+s.s.length then { c with ended:=true,ox:=off+s.s.length }else c).tq=c.tq:=IV
 generalize (if s.fin=true/\aV c.st=true/\c.ended=false/\c.bx.nx<=off+s.s.length then { c with ended:=true,ox:=off+s.s.length }else c)=d at h1|-;split
 ·rw[<-h1];exact(cJ { d with over:=true } now 6).tq
 exact h1
theorem wT (c:Cn):Fx c c.expire.1/\c.expire.1.st=c.st:=by
 unfold Cn.expire;split
 ·exact⟨⟨Z,Z,Z,Z⟩,Z⟩
 split
 ·exact⟨.refl c,Z⟩
 exact⟨ii c _,(gv c false).1⟩
theorem nJ (c:Cn)(now:Int)(l:List Sg):Fx c (c.oi now l).1/\(c.oi now l).1.st=c.st:=by
 unfold Cn.oi;dsimp only;split
 ·exact⟨(show Fx c c.gB from⟨Z,Z,Z,Z⟩).trans (bA _ now),dA c.gB now⟩
 exact⟨bA c now,dA c now⟩
theorem uR (c:Cn)(now:Int):Fx c (c.tick now).1/\((c.tick now).1.st=c.st\/(c.tick now).1.st=0):=by
 unfold Cn.tick;split
 ·exact⟨.refl c,.inl Z⟩
 split
 ·exact⟨cR c _ _ _,.inr (dB c now _ (.inr Z))⟩
 split
 ·dsimp only;split
  ·exact⟨(show Fx c { c with tries:=c.tries+1 }from⟨Z,Z,Z,Z⟩).trans (cR _ _ _ _),.inr (dB _ now _ (.inr Z))⟩
  have a:Fx c { c with tries:=c.tries+1,tm:=c.tm.og.ka,dl:=.wA now c.tm.og.ka.value }:=⟨Z,Z,Z,Z⟩;split
  ·obtain⟨b,e⟩:=wT { c with tries:=c.tries+1,tm:=c.tm.og.ka,dl:=.wA now c.tm.og.ka.value };obtain⟨f,g⟩:=nJ (Cn.expire { c with tries:=c.tries+1,tm:=c.tm.og.ka,dl:=.wA now c.tm.og.ka.value }).1 now (Cn.expire { c with tries:=c.tries+1,tm:=c.tm.og.ka,dl:=.wA now c.tm.og.ka.value }).2;exact⟨(a.trans b).trans f,.inl (g.trans e)⟩
  exact⟨a.trans (pI _),.inl (by unfold Cn.v6;split <;> rfl)⟩
 have:=nJ c now [];exact⟨this.1,.inl this.2⟩
theorem zE (c:Cn)(now:Int)(he:c.te=0):Fx c (c.close now).1/\(c.st=1->(c.close now).1.st=0):=by
 have b:¬(c.st=0\/c.shut=true):=fun e=>by unfold Cn.te at he;rw[L7 e]at he;cases he
 have a:Fx c { c with shut:=true }:=⟨Z,Z,Z,Z⟩;unfold Cn.close;rw[L5 b];dsimp only;split
 ·rename_i h1;refine⟨a.trans (cR _ _ _ _),fun _=> ?_⟩;show(Cn.step { c with shut:=true } now 5).st=0;rw[Cn.Ad];dsimp only;rw[h1];rfl
 split
 ·rename_i h1 h2;exact⟨a.trans (bA _ now),fun h=>absurd h h1⟩
 rename_i h1 h2;exact⟨(a.trans (cJ _ now 5)).trans (bA _ now),fun h=>absurd h h1⟩
theorem Av (c:Cn)(now:Int)(x:List UInt8):Fx c (c.send now x).1/\(c.send now x).1.st=c.st:=by
 unfold Cn.send;split
 ·exact⟨.refl c,Z⟩
 exact⟨(show Fx c { c with held:=c.held++x.take (c.nX x).toNat }from⟨Z,Z,Z,Z⟩).trans (bA _ now),dA _ now⟩
namespace RB
variable {S S' : List UInt8} {cl cl' : Bool} {kc : Int} {c d : Cn} {got : List UInt8}
theorem receive (h:RB S cl c got)(hi:0<=kc/\kc<=4294967295)(j:Ir kc c)(now:Int){s:Sg}{k:Kx}(g:GS k s)(F:k.S=S)(G:k.cl=cl)(I:k.kc=kc):RB S cl (c.receive now s).1 got/\Ir kc (c.receive now s).1:=by
 have J:=h.pi.small;have u:=g.dat;rw[F,G,I]at u;unfold Cn.receive;split
 ·exact⟨h,j⟩
 rename_i h0;split
 ·exact⟨h,j⟩
 split
 ·rename_i h1;unfold Cn.xs;split
  ·split <;> exact⟨h,j⟩
  split
  ·exact⟨h.fx (cR _ _ _ _),.inl (dB c now _ (.inl Z))⟩
  split
  ·exact⟨h,j⟩
  rename_i hy;have hy:s.syn=true:=Jm
  have w:s.qa=false:=by
   cases hq:s.qa with
   | false=>rfl
   | true=>have:=(g.qa hq).2.2;rw[hy]at this;cases this
  obtain⟨off,g1,-,K,-⟩:=u w;have L:=(K hy).1;have l:s.sq=kc:=by rw[g1,L];unfold aw;omega
  have i:∀x:Cn,x.bx=c.bx->x.ended=c.ended->x.ox=c.ox->x.tq=s.sq->∀e,Fx x e->RB S cl e got/\Ir kc e:=fun x M N T U e f =>
   ⟨(RB.mk (by rw[M];exact h.pi) (by rw[N,T];exact h.en):RB S cl x got).fx f,.inr (.inr (f.tq.trans (U.trans l)))⟩
  dsimp only;split
  ·exact i { c.meet s with tries:=0 } Z Z Z Z _ ((cJ _ now 2).trans (pI _))
  refine i { ({ c.meet s with tries:=0 }:Cn)with sc:=(c.meet s).sc.go 1 [],tm:=(c.meet s).tm.go now 1 } Z Z Z Z _ ?_;refine Fx.trans ?_ (bA _ now);have t:=cJ { ({ c.meet s with tries:=0 }:Cn)with sc:=(c.meet s).sc.go 1 [],tm:=(c.meet s).tm.go now 1 } now 3;exact⟨t.bx,t.tq,t.ended,t.ox⟩
 rename_i h1
 have l:c.tq=kc:=by
  rcases j with h | h | h
  ·exact absurd h h0
  ·exact absurd h h1
  exact h
 have i:∀e,Fx c e->RB S cl e got/\Ir kc e:=fun e f=>⟨h.fx f,.inr (.inr (f.tq.trans l))⟩;unfold Cn.ys;dsimp only;split
 ·exact i _ (cR _ _ _ _)
 split
 ·exact⟨h,j⟩
 split
 ·refine i _ ?_;unfold Cn.stray;dsimp only
  have y:Fx c (if bU c.st=true/\s.has=true/\s.syn=false/\c.fM<=aE s.ak c.cf.kc/\aE s.ak c.cf.kc<=c.next then c.go now s (aE s.ak c.cf.kc)else c):=by
   split
   ·exact eP c now s _
   exact .refl c
  generalize (if bU c.st=true/\s.has=true/\s.syn=false/\c.fM<=aE s.ak c.cf.kc/\aE s.ak c.cf.kc<=c.next then c.go now s (aE s.ak c.cf.kc)else c)=a at y|-
  have f2:Fx c (if a.st=9/\s.fin=true then { a with per:=.wA now 60 }else a):=by
   split
   ·exact y.trans ⟨Z,Z,Z,Z⟩
   exact y
  generalize (if a.st=9/\s.fin=true then { a with per:=.wA now 60 }else a)=b at f2|-;split
  ·exact(f2.trans (show Fx b b.gB from⟨Z,Z,Z,Z⟩)).trans (bA _ now)
  exact f2.trans (bA _ now)
 split
 ·exact i _ ((show Fx c c.gB from⟨Z,Z,Z,Z⟩).trans (bA _ now))
 split
 ·exact⟨h,j⟩
 rename_i m _
 have w:s.qa=false:=by
  cases hq:s.qa with
  | false=>rfl
  | true=>exact absurd (.inl hq) m
 have hy:s.syn=false:=by
  cases hq:s.syn with
  | false=>rfl
  | true=>exact absurd (.inr hq) m
 obtain⟨off,g1,W,-,V,A,B⟩:=u w;have C:=V hy;obtain⟨o,E⟩:∃o:Nat,off=o+1:=⟨off-1,O⟩
 have e:c.offset s.sq=(o:Int):=by
  unfold Cn.offset;rw[g1,l,zC O,E];omega
 subst E;rw[Nat.add_sub_cancel]at A B;rw[e]
 have z:∀x,Fx c x->RB S cl (((x.store now s o).qb now s o).push now).1 got/\Ir kc (((x.store now s o).qb now s o).push now).1:=fun x f =>
  ⟨((((h.fx f).store now A).qb now B).fx (bA _ now)),.inr (.inr (by rw[(bA _ now).tq,zD,wS,f.tq,l]))⟩
 unfold Cn.process;dsimp only;split
 ·split
  ·exact⟨h,j⟩
  split
  ·exact z _ (((cJ c now 4).trans (cJ _ now 5)).trans (eP _ now s _))
  exact z _ ((cJ c now 4).trans (eP _ now s _))
 split
 ·exact i _ ((show Fx c c.gB from⟨Z,Z,Z,Z⟩).trans (bA _ now))
 exact z _ (eP c now s _)
theorem recv (h:RB S cl c got)(now:Int){n:Int}(e:0<=n):RB S cl (c.recv now n).1 (got++c.bx.nB n)/\(c.recv now n).1.tq=c.tq/\(c.recv now n).1.st=c.st/\(c.qF n=true->cl=true/\(got++c.bx.nB n).length=S.length):=by
 obtain⟨p1,f,-⟩:=h.pi.take n;have b:RB S cl { c with bx:=c.bx.take n } (got++c.bx.nB n):=⟨p1,h.en⟩
 have he:c.qF n=true->cl=true/\(got++c.bx.nB n).length=S.length:=by
  intro a;unfold Cn.qF Cn.reached at a;rw[Ly,Ly,Lh,Lh]at a;have h1:=h.en a.1.1;have h2:=p1.rd;have g:(c.bx.take n).nx=c.ox:=a.1.2;exact⟨h1.1,O⟩
 unfold Cn.recv;rw[L5 O];dsimp only;split
 ·exact⟨b,Z,Z,he⟩
 split
 ·exact⟨b,Z,Z,he⟩
 refine⟨b.fx ((show Fx { c with bx:=c.bx.take n } (Cn.gB { c with bx:=c.bx.take n })from⟨Z,Z,Z,Z⟩).trans (bA _ now)),(bA _ now).tq,dA _ now,he⟩
end RB
def Sd.str (s:Sd):List UInt8:=s.all.take s.sent.toNat
theorem Dp.Ei {s:Sd}(h:Dp s):s.str.length=s.sent.toNat:=by
 have:=h.sl;have:=h.s0;unfold Sd.str;rw[Le];omega
namespace Pr
structure zc where
 kc:Bool->Int
 m:Int
 r:Bool->Int
def zz (P:zc)(i:Bool)(L:List Fl):Int:=L.foldl (fun e f=>if f.dst=i/\f.s.has=true/\f.s.syn=false then max e (aE f.s.ak (aw (P.kc i) 1)+f.s.win)else e) (P.r (!i))
def kx (P:zc)(p:Pr)(i:Bool):Kx:=⟨(p.sd i).str,(p.sd i).closed,P.kc i,P.m,P.r i,zz P i p.log⟩
structure Iz (P:zc)(L:List Fl)(f:Fl):Prop where
 len:(f.s.s.length:Int)<=P.m
 win:f.s.win<=P.r (!f.dst)
 lim:f.s.s≠[]->aE f.s.sq (aw (P.kc (!f.dst)) 1)+f.s.s.length<=zz P (!f.dst) L+1
 pos:f.s.s≠[]->0<=aE f.s.sq (aw (P.kc (!f.dst)) 1)
theorem CA {k:Kx}{s:Sg}(g:GS k s)(hl:k.S.length<=1000)(hs:s.s≠[]):0<=aE s.sq (aw k.kc 1):=by
 have a:s.qa=false:=by
  cases hq:s.qa with
  | false=>rfl
  | true=>exact absurd (g.qa hq).1 hs
 obtain⟨off,h1,h2,b,e,-⟩:=g.dat a
 have hy:s.syn=false:=by
  cases hq:s.syn with
  | false=>rfl
  | true=>exact absurd (b hq).2.1 hs
 have:=e hy;rw[h1,zC O];omega
structure PV (P:zc)(p:Pr):Prop where
 s:∀i,SI (kx P p i) (p.sd i).c/\U1 (p.sd i).c
 r:∀i,RB (p.sd (!i)).str (p.sd (!i)).closed (p.sd i).c (p.sd i).got/\Ir (P.kc (!i)) (p.sd i).c/\((p.sd i).fin=true->(p.sd (!i)).closed=true/\(p.sd i).got.length=(p.sd (!i)).str.length)
 w:∀f∈p.wire,GS (kx P p (!f.dst)) f.s/\fj (kx P p f.dst) f.s
 g:∀L f M,p.log=L++f::M->Iz P L f
theorem kM (P:zc)(i:Bool)(L:List Fl)(f:Fl):zz P i (L++[f])=if f.dst=i/\f.s.has=true/\f.s.syn=false then max (zz P i L) (aE f.s.ak (aw (P.kc i) 1)+f.s.win)else zz P i L:=by
 unfold zz;rw[N2];rfl
theorem FW (P:zc)(i:Bool)(L:List Fl):P.r (!i)<=zz P i L:=by
 have a:∀(L:List Fl) (e:Int),e<=L.foldl (fun e f=>if f.dst=i/\f.s.has=true/\f.s.syn=false then max e (aE f.s.ak (aw (P.kc i) 1)+f.s.win)else e) e:=by
  intro L
  induction L with
  | nil=>exact fun e=>L9 e
  | cons f L b =>
   intro e;rw[Nk];split
   ·exact Lz O (b _)
   exact b e
 exact a L _
theorem zF (p:Pr)(i:Bool)(d:Sd):(p.kd i d).sd i=d/\(p.kd i d).sd (!i)=p.sd (!i)/\(p.kd i d).wire=p.wire/\(p.kd i d).now=p.now/\(p.kd i d).log=p.log:=by cases i <;> exact⟨Z,Z,Z,Z,Z⟩
theorem zG {p:Pr}{f g:Fl}(h:g∈p.AA f):g.dst=f.dst/\g.s=f.s:=by
 unfold AA at h
 (repeat' split at h) <;> simp at h <;> rw[h] <;> exact⟨Z,Z⟩
theorem tP {α:Type}{A L M:List α}{x y:α}(h:A++[x]=L++y::M):(∃a,A=L++y::a)\/(L=A/\y=x):=by
 rcases List.eq_nil_or_concat M with rfl | ⟨a,z,rfl⟩
 ·have:=List.append_inj' h Z
  injection this.2 with h1 h2
  exact .inr ⟨this.1.symm,h1.symm⟩
 have e:L++y::(a++[z])=(L++y::a)++[z]:=FE
 rw[List.concat_eq_append,e]at h;exact .inl ⟨a,(List.append_inj' h Z).1⟩
variable {P : zc} {p : Pr} {q r : Int}
theorem lE (i j:Bool):j=i\/j= !i:=by cases i <;> cases j <;> simp
theorem PV.tt (h:PV P p)(i:Bool){s:Sg}(g:GS (kx P p i) s):PV P (p.tt i s)/\kx P (p.tt i s) i=kx P p i:=by
 have a:∀j,(p.tt i s).sd j=p.sd j:=fun j=>by cases j <;> rfl
 have l:(p.tt i s).log=p.log++[p.fl i s]:=Z;have b:(p.fl i s).dst= !i:=Z;have hs:(p.fl i s).s=s:=Z
 have t:kx P (p.tt i s) i=kx P p i:=by
  unfold kx;rw[a,l,kM,b,L5 (fun m=>by have:=m.1;cases i <;> cases this)]
 have gw:∀j,Gw (kx P p j) (kx P (p.tt i s) j):=fun j=>⟨.inl ⟨by show((p.tt i s).sd j).str=_;rw[a];rfl,fun u=>by show((p.tt i s).sd j).closed=true;rw[a];exact u⟩,Z,Z,Z,by
  show zz P j p.log<=zz P j (p.tt i s).log;rw[l,kM];split <;> omega⟩
 have told:fj (kx P (p.tt i s) (!i)) s:=by
  refine⟨fun h1 h2=> ?_,fun h1=> ?_⟩
  ·show aE s.ak (aw (P.kc (!i)) 1)+s.win<=zz P (!i) (p.tt i s).log;rw[l,kM,L7 ⟨b,h1,h2⟩,hs];omega
  show s.win<=zz P (!i) (p.tt i s).log;have h2:=FW P (!i) (p.tt i s).log;rw[LF]at h2;exact Lz g.win h2
 have x:s.s≠[]->0<=aE s.sq (aw (P.kc i) 1):=fun o=>CA (k:=kx P p i) g (h.s i).1.sm o;refine⟨⟨fun j=> ?_,fun j=> ?_,fun f e=> ?_,fun L f M m=> ?_⟩,t⟩
 ·rw[a];exact⟨(h.s j).1.gw (gw j) (by show((p.tt i s).sd j).str.length<=1000;rw[a];exact(h.s j).1.sm) (by show((p.tt i s).sd j).str=_;rw[a];rfl) (by show((p.tt i s).sd j).closed=_;rw[a];rfl),(h.s j).2⟩
 ·rw[a,a];exact h.r j
 ·rcases LE.1 e with e | e
  ·have:=h.w f e;exact⟨this.1.gw (gw _),this.2.gw (gw _)⟩
  obtain⟨h1,h2⟩:=zG e;rw[h1,h2,b,hs,LF,t];exact⟨g,told⟩
 rw[l]at m
 rcases tP m with⟨y,h1⟩ | ⟨h1,h2⟩
 ·exact h.g L f y h1
 rw[h1,h2];exact⟨g.len,by rw[b,LF];exact g.win,by rw[b,LF];exact g.lim,by rw[b,LF];exact x⟩
theorem PV.put (i:Bool):∀(l:List Sg) {p:Pr},PV P p->(∀s∈l,GS (kx P p i) s)->PV P (p.put i l):=by
 intro l
 induction l with
 | nil=>intro p h _;exact h
 | cons s l b =>
  intro p h a;obtain⟨h1,h2⟩:=h.tt i (a s M4);exact b h1 (fun x e=>by rw[h2];exact a x (Mg _ e))
theorem PV.act (h:PV P p)(i:Bool){d:Sd}{l:List Sg}{k:Kx}(F:k=⟨d.str,d.closed,P.kc i,P.m,P.r i,zz P i p.log⟩)(g:(d.str=(p.sd i).str/\((p.sd i).closed=true->d.closed=true))\/((p.sd i).closed=false/\∃x,d.str=(p.sd i).str++x))(hlen:d.str.length<=1000)(ho:jN k (d.c,l))
  (hr:RB (p.sd (!i)).str (p.sd (!i)).closed d.c d.got)(hi:Ir (P.kc (!i)) d.c)(hf:d.fin=true->(p.sd (!i)).closed=true/\d.got.length=(p.sd (!i)).str.length):PV P ((p.kd i d).put i l):=by
 subst F;obtain⟨hs,G,I⟩:=ho;obtain⟨e,o,J,V,u⟩:=zF p i d;have a:(!!i)=i:=LF i;have y:kx P (p.kd i d) i=⟨d.str,d.closed,P.kc i,P.m,P.r i,zz P i p.log⟩:=by unfold kx;rw[e,u]
 have z:kx P (p.kd i d) (!i)=kx P p (!i):=by unfold kx;rw[o,u]
 have gw:Gw (kx P p i) (kx P (p.kd i d) i):=by rw[y];exact⟨g,Z,Z,Z,L9 _⟩
 refine PV.put i l ⟨fun j=> ?_,fun j=> ?_,fun f b=> ?_,fun L f M A=> ?_⟩ (by rw[y];exact G)
 ·rcases lE i j with rfl | rfl
  ·rw[e,y];exact⟨hs,I⟩
  rw[o,z];exact h.s _
 ·rcases lE i j with rfl | rfl
  ·rw[e,o];exact⟨hr,hi,hf⟩
  rw[o,a,e];obtain⟨B,C,E⟩:=h.r (!i);rw[a]at B C E;refine⟨B.gw g hlen,C,fun K=> ?_⟩;have:=E K
  rcases g with⟨t,N⟩ | ⟨t,-⟩
  ·rw[t];exact⟨N this.1,this.2⟩
  rw[this.1]at t;cases t
 ·rw[J]at b;obtain⟨T,U⟩:=h.w f b
  have:∀j,Gw (kx P p j) (kx P (p.kd i d) j):=fun j=>by
   rcases lE i j with rfl | rfl
   ·exact gw
   rw[z];exact .refl _
  exact⟨T.gw (this _),U.gw (this _)⟩
 rw[u]at A;exact h.g L f M A
theorem CB (p:Pr)(i j:Bool)(l:List Sg):(p.put i l).sd j=p.sd j:=by
 have:=mr i l p
 cases j
 ·exact this.1
 exact this.2.1
theorem Dq (h:Fit p q r)(i:Bool):(p.sd i).str.length<=1000:=by
 have h1:=h.sd i;have:=h1.Ei;have:=h1.sl;have:=h1.len;omega
def zc.Ok (P:zc):Prop:=∀i,0<=P.kc i/\P.kc i<=4294967295
theorem PV.ke (h:PV P p)(k:Fit p q r)(b:P.Ok){f:Fl}(hf:f.s.Ok){k1 a:Kx}(e:k1.S=(p.sd (!f.dst)).str)(i:k1.cl=(p.sd (!f.dst)).closed)(j:k1.kc=P.kc (!f.dst))(g:GS k1 f.s)(l:Gw a (kx P p f.dst))(t:fj a f.s):PV P (p.ke f):=by
 have hs:=k.sd f.dst;obtain⟨m,o⟩:=h.s f.dst;obtain⟨u,w,x⟩:=h.r f.dst;obtain⟨y,z⟩:=u.receive (b _) w p.now g e i j;exact h.act f.dst (d:={ p.sd f.dst with c:=((p.sd f.dst).c.receive p.now f.s).1 }) Z (.inl ⟨Z,id⟩) (Dq k _) (m.receive hs.c k.zu hf o (t.gw l)) y z x
theorem tC (p:Pr)(f:Fl)(j:Bool):((p.ke f).sd j).str=(p.sd j).str/\((p.ke f).sd j).closed=(p.sd j).closed:=by
 have e:(p.ke f).sd j=(p.ro f.dst ((p.sd f.dst).c.receive p.now f.s).1).sd j:=CB _ _ _ _;rw[e]
 cases f.dst <;> cases j <;> exact⟨Z,Z⟩
theorem Aw (i:Bool):∀(l:List Sg) (p:Pr) (j:Bool),zz P j p.log<=zz P j (p.put i l).log:=by
 intro l
 induction l with
 | nil=>intro p j;exact L9 _
 | cons s l a =>
  intro p j;refine Lz ?_ (a (p.tt i s) j);show zz P j p.log<=zz P j (p.log++[p.fl i s]);rw[kM];split <;> omega
theorem AE (p:Pr)(f:Fl)(j:Bool):Gw (kx P p j) (kx P (p.ke f) j):=by
 obtain⟨a,b⟩:=tC p f j;refine⟨.inl ⟨a,fun h=>b.trans h⟩,Z,Z,Z,?_⟩;have h1:=Aw (P:=P) f.dst ((p.sd f.dst).c.receive p.now f.s).2 (p.ro f.dst ((p.sd f.dst).c.receive p.now f.s).1) j;rw[show(p.ro f.dst ((p.sd f.dst).c.receive p.now f.s).1).log=p.log from(zF p _ _).2.2.2.2]at h1;exact h1
theorem PV.fold (b:P.Ok):∀(l:List Fl) {p:Pr} {q r:Int},PV P p->Fit p q r->(∀f∈l,f.s.Ok/\GS (kx P p (!f.dst)) f.s/\fj (kx P p f.dst) f.s)->PV P (l.foldl Pr.ke p):=by
 intro l
 induction l with
 | nil=>intro p q r h _ _;exact h
 | cons f l e =>
  intro p q r h k a;obtain⟨h1,h2,g⟩:=a f M4;refine e (h.ke k b h1 (k1:=kx P p (!f.dst)) Z Z Z h2 (.refl _) g) (Ce k h1) (fun x i=> ?_);obtain⟨j,m,o⟩:=a x (Mg _ i);exact⟨j,m.gw (AE p f _),o.gw (AE p f _)⟩
theorem PV.ki (h:PV P p)(k:Fit p q r)(i:Bool):PV P (p.ki i):=by
 have hs:=k.sd i;obtain⟨e,f⟩:=h.s i;obtain⟨g,a,j⟩:=h.r i;obtain⟨b,f2⟩:=uR (p.sd i).c p.now;refine h.act i (d:={ p.sd i with c:=((p.sd i).c.tick p.now).1 }) Z (.inl ⟨Z,id⟩) (Dq k _) (e.tick hs.c k.zu f) (g.fx b) ?_ j;show Ir _ ((p.sd i).c.tick p.now).1
 rcases f2 with f2 | f2
 ·unfold Ir at a|-;rw[f2,b.tq];exact a
 exact .inl f2
theorem PV.tick (h:PV P p)(k:Fit p q r)(m:p.now+1<=1000000)(o:P.Ok):PV P p.tick:=by
 have h0:PV P { p with now:=p.now+1 }:=⟨h.s,h.r,h.w,h.g⟩;have j:Fit { p with now:=p.now+1 } q r:=⟨k.a,k.b,⟨by have:=k.now;dsimp only;omega,m⟩,k.wire,k.due,k.log,k.q,k.r⟩
 have i:∀{x:Pr} {q r:Int},PV P x->Fit x q r->PV P x.deliver:=by
  intro x q r h k;exact PV.fold o x.due (p:={ x with wire:=x.rest }) ⟨h.s,h.r,fun f e=>h.w f (Ec e),h.g⟩ (Ed k) (fun f e=>⟨k.wire f (Dy e),h.w f (Dy e)⟩)
 have h1:=i h0 j;have l:=Df j;exact(h1.ki l false).ki (vw l false) true
theorem PV.send (h:PV P p)(k:Fit p q r)(i:Bool)(n:Int):PV P (p.send i n):=by
 have hs:=k.sd i;obtain⟨l,m⟩:=h.s i;obtain⟨t,g,u⟩:=h.r i;unfold Pr.send;dsimp only;split
 ·exact h
 rename_i w;split
 ·exact h
 rename_i x;have B:=Ch hs n;have C:=hs.len;have y:=hs.sl;have E:=hs.last;have h0:=hs.s0;have z:(p.sd i).c.refusal=0:=by simpa using x
 have b:(p.sd i).closed=false:=by simpa using (fun h=>w (.inl h))
 have A:0<=(p.sd i).c.nX (bytes (p.sd i) n)/\(p.sd i).c.nX (bytes (p.sd i) n)<=(bytes (p.sd i) n).length:=Kd
 have e:(p.sd i).str++(bytes (p.sd i) n).take ((p.sd i).c.nX (bytes (p.sd i) n)).toNat=(p.sd i).all.take ((p.sd i).sent+(p.sd i).c.nX (bytes (p.sd i) n)).toNat:=by
  generalize (p.sd i).c.nX (bytes (p.sd i) n)=kk at A|-
  have a:kk.toNat+(p.sd i).sent.toNat<=(min ((p.sd i).sent+n) (p.sd i).all.length).toNat\/kk=0:=by
   have:(bytes (p.sd i) n).length=(min ((p.sd i).sent+n) (p.sd i).all.length).toNat-(p.sd i).sent.toNat:=by
    unfold bytes;rw[Lq,Le];omega
   omega
  rcases a with a | rfl
  ·rw[show((p.sd i).sent+kk).toNat=(p.sd i).sent.toNat+kk.toNat by omega,List.take_add]
   congr 1
   unfold bytes;rw[List.drop_take,Nt]
   congr 1
   omega
  simp[Sd.str]
 have o:=l.send hs.c k.zu m (bytes (p.sd i) n) O z (by show((p.sd i).str++_).length<=1000;rw[e,Le];omega);have f:Sd.str { p.sd i with c:=((p.sd i).c.send p.now (bytes (p.sd i) n)).1,sent:=(p.sd i).sent+(p.sd i).c.nX (bytes (p.sd i) n) }=(p.sd i).all.take ((p.sd i).sent+(p.sd i).c.nX (bytes (p.sd i) n)).toNat:=Z;obtain⟨j,f2⟩:=Av (p.sd i).c p.now (bytes (p.sd i) n);refine h.act i (d:={ p.sd i with c:=((p.sd i).c.send p.now (bytes (p.sd i) n)).1,sent:=(p.sd i).sent+(p.sd i).c.nX (bytes (p.sd i) n) }) (k:={ kx P p i with S:=(p.sd i).str++(bytes (p.sd i) n).take ((p.sd i).c.nX (bytes (p.sd i) n)).toNat }) (by rw[f,e];rfl) (.inr ⟨b,_,(f.trans e.symm)⟩) (by rw[f,Le];omega) o (t.fx j) ?_ u;show Ir _ ((p.sd i).c.send p.now (bytes (p.sd i) n)).1;unfold Ir at g|-;rw[f2,j.tq];exact g
theorem PV.recv (h:PV P p)(k:Fit p q r)(i:Bool){n:Int}(l:0<=n):PV P (p.recv i n):=by
 have hs:=k.sd i;obtain⟨m,t⟩:=h.s i;obtain⟨u,g,j⟩:=h.r i;obtain⟨f,w,x,y⟩:=u.recv p.now l
 have b:Ir (P.kc (!i)) ((p.sd i).c.recv p.now n).1:=by
  unfold Ir at g|-;rw[x,w];exact g
 have o:=m.recv hs.c k.zu t n;unfold Pr.recv;dsimp only;split
 ·rename_i he
  have hz:(p.sd i).c.bx.nB n=[]:=by
   unfold Cn.nF at he;rw[L5 O]at he;split at he
   ·rename_i z;exact z.1
   exact absurd Z he
  rw[hz,LM]at f;have e:p.ro i ((p.sd i).c.recv p.now n).1=(p.kd i { p.sd i with c:=((p.sd i).c.recv p.now n).1 }).put i []:=Z;rw[e];exact h.act i Z (.inl ⟨Z,id⟩) (Dq k _) ⟨o.1,Cn.Ok.all_nil,o.2.2⟩ f b j
 refine h.act i (d:={ p.sd i with c:=((p.sd i).c.recv p.now n).1,got:=(p.sd i).got++(p.sd i).c.bx.nB n,fin:=(p.sd i).fin||(p.sd i).c.qF n }) Z (.inl ⟨Z,id⟩) (Dq k _) o f b (fun a=> ?_);dsimp only at a|-;rw[Bool.or_eq_true]at a
 rcases a with a | a
 ·have:=j a;have A:=f.pi.EE;rw[La]at A|-;exact⟨this.1,O⟩
 exact y a
theorem PV.shut (h:PV P p)(k:Fit p q r)(i:Bool):PV P (p.shut i):=by
 have hs:=k.sd i;obtain⟨e,f⟩:=h.s i;obtain⟨g,a,j⟩:=h.r i;unfold Pr.shut;dsimp only;split
 ·exact h
 split
 ·exact h
 rename_i he;have he:(p.sd i).c.te=0:=by simpa using he
 obtain⟨b,f2⟩:=zE (p.sd i).c p.now he;have o:=e.close hs.c k.zu f he;refine h.act i (d:={ p.sd i with c:=((p.sd i).c.close p.now).1,closed:=true }) Z (.inl ⟨Z,fun _=>rfl⟩) (Dq k _) o (g.fx b) ?_ j;show Ir _ ((p.sd i).c.close p.now).1
 rcases a with a | a | a
 ·unfold Cn.te at he;rw[L7 (.inl a)]at he
  cases he
 ·exact .inl (f2 a)
 exact .inr (.inr (b.tq.trans a))
theorem PV.AB (h:PV P p)(k:Fit p q r)(i:Bool):AB (p.sd i) (p.sd (!i))=false:=by
 obtain⟨f,s,g⟩:=h.r i;have a:=k.sd (!i);have j:=a.Ei;have t:=f.pi.EE;have b:=f.pi.got;have h0:=a.s0;have l:=a.sl;unfold Pr.AB;rw[MO,MO,Lr,Lr];refine⟨O,fun m=>m ?_,?_⟩
 ·have e:(p.sd (!i)).str.take (p.sd i).got.length=(p.sd (!i)).all.take (p.sd i).got.length:=by
   unfold Sd.str;rw[Nt]
   congr 1
   omega
  rw[show min (p.sd i).got.length (p.sd (!i)).all.length=(p.sd i).got.length by omega,<-e];exact b
 cases hf:(p.sd i).fin with
 | false=>rfl
 | true =>
  obtain⟨o,u⟩:=g hf;rw[o]
  simp
  omega
theorem PV.EC (h:PV P p)(k:Fit p q r):p.EC=0:=by
 have h1:=h.AB k false;have h2:=h.AB k true;unfold Pr.EC;have e:Pr.AB p.a p.b=false:=h1;have f:Pr.AB p.b p.a=false:=h2;rw[e,f];rfl
end Pr
end
section
namespace Pr
structure Al (P:zc)(p:Pr)(n:Int):Prop where
 run:Cp p n
 pv:PV P p
 ml:p.Ml
variable {P : zc} {p : Pr} {n : Int}
theorem lF (p:Pr)(i:Bool)(d:Sd)(l:List Sg):((p.kd i d).put i l).now=p.now:=((bs i l _).2.2.1).trans (by cases i <;> rfl)
theorem zH (p:Pr)(i:Bool)(k:Int):(p.send i k).now=p.now:=by
 unfold send;dsimp only;split
 ·rfl
 split
 ·rfl
 exact lF _ _ _ _
theorem zI (p:Pr)(i:Bool)(k:Int):(p.recv i k).now=p.now:=by
 unfold recv;dsimp only;split
 ·cases i <;> rfl
 exact lF _ _ _ _
theorem zJ (p:Pr)(i:Bool):(p.shut i).now=p.now:=by
 unfold shut;dsimp only;split
 ·rfl
 split
 ·rfl
 exact lF _ _ _ _
theorem Ay (h:p.Ml)(i:Bool)(k:Int):(p.send i k).Ml:=by
 unfold send;dsimp only;split
 ·exact h
 split
 ·exact h
 exact Ml.put (h.kd _ _) _ _
theorem Az (h:p.Ml)(i:Bool)(k:Int):(p.recv i k).Ml:=by
 unfold recv;dsimp only;split
 ·exact h.kd _ _
 exact Ml.put (h.kd _ _) _ _
theorem BA (h:p.Ml)(i:Bool):(p.shut i).Ml:=by
 unfold shut;dsimp only;split
 ·exact h
 split
 ·exact h
 exact Ml.put (h.kd _ _) _ _
namespace Al
theorem tkz (h:Al P p n)(h0:0<=n)(a:n+1<=29000)(c:7*p.now+6<=n+6000)(b:P.Ok):Al P p.tick (n+1):=⟨h.run.tkz h0 a c,h.pv.tick h.run.1 (by have:=h.run.2;omega) b,h.ml.tick⟩
theorem tick (h:Al P p n)(h0:0<=n)(a:n+1<=1000)(b:P.Ok):Al P p.tick (n+1):=h.tkz h0 O (by have:=h.run.2;omega) b
theorem send (h:Al P p n)(i:Bool)(k:Int):Al P (p.send i k) (n+1) :=
 ⟨⟨(Dz h.run.1 i k).mono O (by rw[zH];omega),by rw[zH];have:=h.run.2;omega⟩,h.pv.send h.run.1 i k,Ay h.ml i k⟩
theorem recv (h:Al P p n)(i:Bool){k:Int}(a:0<=k):Al P (p.recv i k) (n+1) :=
 ⟨⟨(Dg h.run.1 i k).mono O (by rw[zI];omega),by rw[zI];have:=h.run.2;omega⟩,h.pv.recv h.run.1 i a,Az h.ml i k⟩
theorem shut (h:Al P p n)(i:Bool):Al P (p.shut i) (n+1) :=
 ⟨⟨(DH h.run.1 i).mono O (by rw[zJ];omega),by rw[zJ];have:=h.run.2;omega⟩,h.pv.shut h.run.1 i,BA h.ml i⟩
theorem mono (h:Al P p n){m:Int}(hm:n<=m):Al P p m:=⟨⟨h.run.1.mono O O,by have:=h.run.2;omega⟩,h.pv,h.ml⟩
theorem Di (h:Al P p n)(a:n<=14000):3000*(n+1)<=90000000/\87006000*(p.now+1)+3000*(n+1)<=248800000000:=by have:=h.run.2;omega
theorem v (h:Al P p n):Pr.AB p.a p.b=false/\Pr.AB p.b p.a=false/\p.EC=0:=⟨h.pv.AB h.run.1 false,h.pv.AB h.run.1 true,h.pv.EC h.run.1⟩
theorem got (h:Al P p n)(i:Bool):(p.sd i).got.length<=1000:=L8 (h.pv.r i).1.pi.EE (Dq h.run.1 _)
theorem E5 (a:P.Ok):∀(k:Nat) {p:Pr} {n:Int},Al P p n->0<=n->n+k<=1000->Pr.E5 k p=(Pr.ticks k p,true)/\Al P (Pr.ticks k p) (n+k):=by
 intro k
 induction k with
 | zero =>
  intro p n h _ _;refine⟨?_,by rw[show n+((0:Nat):Int)=n by omega];exact h⟩;show(p,decide (p.EC=0))=(p,true);rw[h.v.2.2];rfl
 | succ k b =>
  intro p n h h0 g;have h1:=h.tick h0 O a;obtain⟨e,f⟩:=b h1 O O;refine⟨?_,by rw[show n+((k+1:Nat):Int)=n+1+(k:Nat) by omega];exact f⟩;show(if 0<p.tick.EC then(p.tick,false)else Pr.E5 k p.tick)=_;rw[h1.v.2.2,L5 D];exact e
end Al
end Pr
end
theorem uS (x:Rw):(ej x).okB=true/\(eH x).okB=true:=by
 have h1:=ah x.gi 100 D;have h2:=ah x.sw 400 D;have a:=ah x.rp 400 D;have b:=ah x.keep 400 D;unfold Cf.okB ej eH ck;dsimp only;refine⟨Lc ?_,Lc ?_⟩ <;> omega
theorem uT:aI 0:=by unfold aI;decide
theorem zK (x:Rw):(gE 0 (ej x)).1.Ok:=((gK uT (uS x).1).step uT J0 1).v6
theorem wU (x:Rw):(tx 0 (ej x)).Ok:=(gK uT (uS x).1).step uT J0 1
theorem uU (x:Rw):(gG x).Ok:=(wU x).Dx
theorem zL (x:Rw):(gG x).syn=true:=rfl
theorem kN (x:Rw):(fP 0 (eH x) (gG x)).Ok:=((gK uT (uS x).2).meet (uU x) (zL x)).step uT J0 2
theorem BB (x:Rw):(cZ 0 (eH x) (gG x)).1.Ok:=(kN x).v6
def cG (x:Rw):Pr.zc:=⟨fun i=>match i with | false=>ck x.Dc | true=>ck x.DZ,28+aO x.gi 100,fun i=>match i with | false=>40+aO x.sw 400 | true=>40+aO x.rp 400⟩
theorem eK (x:Rw):(cG x).Ok:=by
 intro i
 cases i <;> (unfold cG ck;dsimp only;omega)
def i9 (x:Rw)(kq:List Int)(n m:Nat):Pr:={ a:=Cm (gE 0 (ej x)).1 (dW 0 n),b:=Cm (cZ 0 (eH x) (gG x)).1 (dW 1 m),wire:=[],now:=0,kq:=kq,many:=0,log:=[] }
theorem zM (x:Rw)(kq:List Int)(n m:Nat):eN x kq n m=(i9 x kq n m).put true [(fP 0 (eH x) (gG x)).qI]:=rfl
theorem ly (s:Int)(n:Nat):(dW s n).length=n:=by unfold dW;rw[LI,List.length_range]
theorem DA (x:Rw)(kq:List Int)(n m:Nat)(hf:kq.length<=1000)(g:n<=1000)(hm:m<=1000):Pr.Fit (i9 x kq n m) 2000 100:=by
 refine⟨⟨zK x,?_,L9 0,?_,Z,?_⟩,⟨BB x,?_,L9 0,?_,Z,?_⟩,⟨L9 0,by show(0:Int)<=1000000;decide⟩,(fun f h=>nomatch h),(fun f h=>nomatch h),(fun f h=>nomatch h),?_,?_⟩
 ·show(dW 0 n).length<=1000;rw[ly];exact g
 ·show(0:Int)<=(dW 0 n).length;omega
 ·show(1:Int)<=1+(0:Nat)+1;decide
 ·show(dW 1 m).length<=1000;rw[ly];exact hm
 ·show(0:Int)<=(dW 1 m).length;omega
 ·show(1:Int)<=1+(0:Nat)+1;decide
 ·have h1:(i9 x kq n m).a.c.xJ<=10:=by have e:Cn.xJ (gE 0 (ej x)).1=3:=Z;show Cn.xJ (gE 0 (ej x)).1<=10;rw[e];decide
  have h2:(i9 x kq n m).b.c.xJ<=10:=KV
  unfold Pr.Q Pr.rem;show((0:Nat):Int)+max 0 ((kq.length:Int)-(0:Nat))+_+_<=2000;omega
 have h1:(i9 x kq n m).a.c.xJ<=10:=by have e:Cn.xJ (gE 0 (ej x)).1=3:=Z;show Cn.xJ (gE 0 (ej x)).1<=10;rw[e];decide
 have h2:(i9 x kq n m).b.c.xJ<=10:=KV
 unfold Pr.R;show((0:Nat):Int)+_+_<=100;omega
theorem DB (x:Rw):SI ⟨[],false,ck x.Dc,28+aO x.gi 100,40+aO x.sw 400,40+aO x.rp 400⟩ (gE 0 (ej x)).1:=by
 have a:=ah x.rp 400 D;exact⟨L9 1,Z,Z,by show(1:Int)<=1+(0:Nat)+0;decide,(fun h=>nomatch h),by show(1:Int)<=max 0 1;decide,L9 1,Z,LW _,by show(0:Int)<=1+(40+aO x.rp 400);omega,(fun h=>absurd h (by show ¬(1:Int)<=0;decide)),by show min (1:Int) (1+(0:Nat))<=0+1;decide,L9 _,Z⟩
theorem B9 (x:Rw):SI ⟨[],false,ck x.DZ,28+aO x.gi 100,40+aO x.rp 400,40+aO x.sw 400⟩ (fP 0 (eH x) (gG x)):=by
 have a:=ah x.sw 400 D;have h2:=ah x.gi 100 D;exact⟨L9 1,Z,Z,by show(1:Int)<=1+(0:Nat)+0;decide,(fun h=>nomatch h),by show(1:Int)<=max 0 1;decide,L9 1,Z,LW _,by show max (0:Int) (1+(40+aO x.sw 400))<=1+(40+aO x.sw 400);omega,(fun h=>absurd h (by show ¬(1:Int)<=0;decide)),by show min (1:Int) (1+(0:Nat))<=max (0:Int) (1+(40+aO x.sw 400))+1;omega,by show min (28+aO x.gi 100) (if 28+aO x.gi 100=0 then 28 else 28+aO x.gi 100)<=28+aO x.gi 100;omega,Z⟩
theorem DN (n:Nat)(h1:1<=n)(h2:n<=8192){c:Cn}(a:c.bx=nZ n)(he:c.ended=false):RB [] false c [] :=
 ⟨by rw[a];exact PI.start Z D h1 h2,fun h=>by rw[he]at h;cases h⟩
theorem DT (x:Rw)(kq:List Int)(n m:Nat):Pr.PV (cG x) (i9 x kq n m):=by
 have h2:=ah x.sw 400 D;have a:=ah x.rp 400 D;refine⟨fun i=> ?_,fun i=> ?_,(fun f h=>nomatch h),fun L f M h=> ?_⟩
 ·cases i
  ·exact⟨DB x,fun h=>absurd h (by show ¬(3:Int)<=1;decide)⟩
  exact⟨(B9 x).v6,fun h=>absurd h (by show ¬(3:Int)<=2;decide)⟩
 ·cases i
  ·refine⟨DN (40+aO x.sw 400).toNat O O Z Z,.inr (.inl Z),(fun h=>nomatch h)⟩
  refine⟨DN (40+aO x.rp 400).toNat O O Z Z,.inr (.inr ?_),(fun h=>nomatch h)⟩;show aw (ck x.Dc) 0=ck x.Dc;unfold aw ck;omega
 have:=congrArg List.length h;rw[La]at this
 simp[i9]at this
theorem kO (x:Rw)(kq:List Int)(n m:Nat)(hf:kq.length<=1000)(a:n<=1000)(hm:m<=1000):Pr.Al (cG x) (eN x kq n m) 0:=by
 have hs:=(kN x).Dx;rw[zM];refine⟨⟨(Pr.Fh true [(fP 0 (eH x) (gG x)).qI] (DA x kq n m hf a hm) (Cn.Ok.BT hs)).mono (by show(2000:Int)+1<=3000*(0+1);decide) (by rw[(bs _ _ _).2.2.1];show(100:Int)+1<=87006000*(0+1)+3000*(0+1);decide),?_⟩,?_,Pr.Ml.put (show(i9 x kq n m).Ml from Z) _ _⟩
 ·rw[(bs _ _ _).2.2.1];exact⟨L9 0,by show(7:Int)*0<=0+6000;decide⟩
 exact Pr.PV.put true _ (DT x kq n m) (Cn.Ok.BT ((B9 x).syn (kN x)))
section
set_option maxHeartbeats 8000000
set_option maxRecDepth 100000
open Go.RowKit Go.Shelf
theorem oX {b:Bx}(ok:b.Ok)(n:Int):(b.nB n).length<=8192:=by
 have h1:=ok.most;have h2:=ok.one;have a:=ok.xK;have e:=ok.Ck;unfold Bx.nB;split
 ·exact LW _
 rw[kg _ _ _ h2 O];omega
theorem eF (N:Nat) (t:Ft) (p:Pr) (i:Bool) (n:Int) (w:World) (q r:Int) (h:tT N t p w) (x:Pr.Fit p q r) (hq:q<=90000000) (hr:r<=248800000000) (hm:p.Ml) (hn:0<=n/\n<=1000000) (hg:(p.sd i).got.length<=1000000) :
  Calls Tryz.prog 20 #[t.B,(bI i),n] w (lA N t w (p.recv i n)):=by
 cases i
 ·have K:w.cell? t.B=some (t.fa.C:Y):=h.cell 0 _ Z;have y1:w.cell? ⟨t.B,1,none⟩=some (.string ⟨p.a.all.toArray⟩):=h.cell 1 _ Z;have y2:w.cell? ⟨t.B,2,none⟩=some (p.a.sent:Y):=h.cell 2 _ Z;have y3:w.cell? ⟨t.B,3,none⟩=some (.string ⟨p.a.got.toArray⟩):=h.cell 3 _ Z;have y4:w.cell? ⟨t.B,4,none⟩=some (p.a.fin:Y):=h.cell 4 _ Z;have y5:w.cell? ⟨t.B,5,none⟩=some (p.a.closed:Y):=h.cell 5 _ Z;have aa:=H x.zu;have ax:=H (Pr.Dg x false n);have b0:=H x.a.c;have b3:=H hm;have b4:=H x.E0;have ab:=H x.now;have ac:=H h;have bb:=H (show p.a.got.length<=1000000 from hg);obtain⟨a1,bc⟩:=hn;show Calls _ _ #[t.B,(0:Int),n] _ _;clear h x hm hg;obtain⟨R,L⟩:∃R,R=p.recv false n:=⟨_,Z⟩;rw[<-L];have HR:=H L;clear L;have bd:=H (show p.a.c.Fm n=(p.a.c.bx.nB n)from L5 O)
  go_enter Tryz.func20,Tryz.ntmps20
  go_wp2_with fail;clear K y1 y2 y3 y4 y5;change Code.wp _ _ _ _ (w.alloc (.cells (pm t.fa p.a).toArray 34));have g:=H (Ps.new (pE.start ac.o) t.fa p.a);generalize hF:w.heap.size=F at g|-;generalize w.alloc (.cells (pm t.fa p.a).toArray 34)=w1 at g|-;have K:=g.row.cell 0 _ Z;go_wp2_with fail;clear K;refine az (fun W:World=>W.cell? F=some (t.fa.C:Y)/\W.cell? ⟨t.B,13,none⟩=some (p.now:Y)) (⟨g.row.cell 0 _ Z,g.st.cell 13 p.now Z⟩) fun m=>?_;replace g:=H (g.oz (L3 _ _).drew);generalize w1.drew=w3 at g m|-;refine aA 0 1 2 3 ?_;refine aM 4 5 ?_;refine aQ 6 ?_;refine aZ 7 fun u j=> ?_;go_simp;refine(oW t.fa p.a.c p.now n _ g.st.pa.a b0.o aa.o).mono ?_;rintro e M⟨v,rfl,hl,hc,y⟩;have k4:=g.st.pa.G2 false t.fa.G _ hc y (.inl Z);replace g:=H (g.step k4);have b7:=H hl;clear hl hc y k4;dsimp only[nI];rw[bd.o];go_simp;refine j.out _ _ (⟨g.row.cell 0 _ Z,g.st.cell 13 p.now Z⟩) ?_;clear j u m;refine fun m=>aW ?_;refine aA 8 9 10 11 ?_;refine aA 12 13 14 15 ?_;refine aQ 16 ?_;refine ay ?_ _;clear m;by_cases he:p.a.c.nF n=0
  ·have HE:=H (show p.a.c.nF n=0 from he);have be:=H (show p.a.c.Fn n=p.a.c.qF n from(L5 O).trans (L7 HE.o));have ag:=H (show p.recv false n=(p.kd false { p.a with c:=(p.a.c.recv p.now n).1,got:=p.a.got++(p.a.c.bx.nB n),fin:=p.a.fin||p.a.c.qF n }).put false (p.a.c.recv p.now n).2 from by unfold Pr.recv;dsimp only;rw[L5 (show ¬(p.sd false).c.nF n≠0 from fun hh=>hh HE.o)];rfl);go_wp2_with fail;rw[be.o];have bk:=H (oX b0.bx n);have z:∀W:World,(Op.stringOp .add (⟨p.a.got.toArray⟩:ByteArray) (⟨(p.a.c.bx.nB n).toArray⟩:ByteArray)).run Tryz.prog W= .ok (.string ⟨(p.a.got++(p.a.c.bx.nB n)).toArray⟩) W:=fun W=>NX W _ _ KW;refine az (fun W:World=>W.cell? ⟨F,3,none⟩=some (.string ⟨p.a.got.toArray⟩)) (g.row.cell 3 _ Z) fun m=>?_;replace g:=H (g.oz (L3 _ _).drew);have T:=H (b7.below (L3 M.heap.size M).drew);generalize M.drew=w5 at g m T|-;have c3:w5.cell? ⟨t.B,3,none⟩=some (.string ⟨p.a.got.toArray⟩):=g.st.cell 3 _ Z;have f3:=g.st.free 3;have k:=H (g.set 3 (.string ⟨(p.a.got++(p.a.c.bx.nB n)).toArray⟩) (p.kd false { p.a with c:=(p.a.c.recv p.now n).1,got:=p.a.got++(p.a.c.bx.nB n) }) Z Z Z Z Z Z);refine aA 0 1 2 3 ?_;refine aA 4 5 6 7 ?_;refine aM 8 9 ?_;refine aZ 10 fun u j=> ?_;go_simp;refine j.out _ _ (k.row.cell 3 _ Z) ?_;clear j u m;refine fun m=>aW ?_;refine ay ?_ _;clear m c3 f3 z;generalize al:w5.setCell ⟨t.B,3,none⟩ (.string ⟨(p.a.got++(p.a.c.bx.nB n)).toArray⟩)=w6 at k|-;have a5:=H (show aL w6 _ v _ from by rw[<-al];exact T.Ep g.st.pa (by rw[<-g.st.eB];exact(g.st.pa.set 3 (.string ⟨(p.a.got++(p.a.c.bx.nB n)).toArray⟩) (p.kd false { p.a with c:=(p.a.c.recv p.now n).1,got:=p.a.got++(p.a.c.bx.nB n) }) Z Z Z Z Z Z).fr));clear al g T;go_wp2_with fail;by_cases f:p.a.fin=true
   focus
    refine az (fun W:World=>W.cell? ⟨F,4,none⟩=some (true:Y)) (k.row.cell 4 _ K1) fun m=>?_;replace k:=H (k.oz (L3 _ _).drew);have A:=H (a5.below (L3 w6.heap.size w6).drew);generalize w6.drew=w7 at k A m|-;have U:w7.cell? ⟨t.B,4,none⟩=some (true:Y):=(k.st.cell 4 p.a.fin Z).trans (by rw[f]);have V:=k.st.free 4;have s:=H (k.set 4 true (p.kd false { p.a with c:=(p.a.c.recv p.now n).1,got:=p.a.got++(p.a.c.bx.nB n),fin:=true }) Z Z Z Z Z Z);refine aA 0 1 2 3 ?_;refine aQ 4 ?_;refine aU 5 ?_;refine aA 6 7 8 9 ?_;refine aQ 10 ?_;refine aZ 11 fun u j=> ?_;go_simp;refine j.out _ _ (s.row.cell 4 _ K1) ?_;clear j u m;refine fun m=>aW ?_;refine ay ?_ _;clear m U V;generalize E:w7.setCell ⟨t.B,4,none⟩ true=w8 at s|-;have I:=H (show p.recv false n=(p.kd false { p.a with c:=(p.a.c.recv p.now n).1,got:=p.a.got++(p.a.c.bx.nB n),fin:=true }).put false (p.a.c.recv p.now n).2 from by rw[ag.o,f];rfl);have an:=H (show aL w8 _ v _ from by rw[<-E];exact A.Ep k.st.pa (by rw[<-k.st.eB];exact(k.st.pa.set 4 true (p.kd false { p.a with c:=(p.a.c.recv p.now n).1,got:=p.a.got++(p.a.c.bx.nB n),fin:=true }) Z Z Z Z Z Z).fr));clear E f;have J:=H (eJ (X:=p.kd false { p.a with c:=(p.a.c.recv p.now n).1,got:=p.a.got++(p.a.c.bx.nB n),fin:=true }) (i:=false) (l:=(p.a.c.recv p.now n).2) K2 Js (b3.kd false _) O)
   rotate_left 1
   focus
    replace f:p.a.fin=false:=JC
    refine az (fun W:World=>W.cell? ⟨F,4,none⟩=some (false:Y)) (k.row.cell 4 _ K1) fun m=>?_;replace k:=H (k.oz (L3 _ _).drew);have A:=H (a5.below (L3 w6.heap.size w6).drew);generalize w6.drew=w7 at k A m|-;have U:w7.cell? ⟨t.B,4,none⟩=some (false:Y):=(k.st.cell 4 p.a.fin Z).trans (by rw[f]);have V:=k.st.free 4;have s:=H (k.set 4 (p.a.c.qF n) (p.kd false { p.a with c:=(p.a.c.recv p.now n).1,got:=p.a.got++(p.a.c.bx.nB n),fin:=(p.a.c.qF n) }) Z Z Z Z Z Z);refine aA 0 1 2 3 ?_;refine aA 4 5 6 7 ?_;refine aM 8 9 ?_;refine aQ 10 ?_;refine aZ 11 fun u j=> ?_;go_simp;refine j.out _ _ (s.row.cell 4 _ K1) ?_;clear j u m;refine fun m=>aW ?_;refine ay ?_ _;clear m U V;generalize E:w7.setCell ⟨t.B,4,none⟩ (p.a.c.qF n)=w8 at s|-;have I:=H (show p.recv false n=(p.kd false { p.a with c:=(p.a.c.recv p.now n).1,got:=p.a.got++(p.a.c.bx.nB n),fin:=(p.a.c.qF n) }).put false (p.a.c.recv p.now n).2 from by rw[ag.o,f];rfl);have an:=H (show aL w8 _ v _ from by rw[<-E];exact A.Ep k.st.pa (by rw[<-k.st.eB];exact(k.st.pa.set 4 (p.a.c.qF n) (p.kd false { p.a with c:=(p.a.c.recv p.now n).1,got:=p.a.got++(p.a.c.bx.nB n),fin:=(p.a.c.qF n) }) Z Z Z Z Z Z).fr));clear E f;have J:=H (eJ (X:=p.kd false { p.a with c:=(p.a.c.recv p.now n).1,got:=p.a.got++(p.a.c.bx.nB n),fin:=(p.a.c.qF n) }) (i:=false) (l:=(p.a.c.recv p.now n).2) K2 Js (b3.kd false _) O)
   all_goals
    have a0:=cO N _ _ false _ v _ _ s.st.pa an.o J.1 J.2.1 J.2.2 ab.o;rw[s.st.eB,show bI false=0 from Z]at a0;go_wp2_with fail;refine a0.mono ?_;rintro e w9⟨rfl,t9,k9⟩;go_wp2_with fail
    go_end0
    exact⟨Z,t9,by rw[HR.o,I.o];exact s.st.trans k9⟩
  have b5:=H (show ¬p.a.c.nF n=0 from he);go_wp2_with fail
  go_end0
  have e2:p.recv false n=p.ro false (p.a.c.recv p.now n).1:=by unfold Pr.recv;dsimp only;exact L7 (show(p.sd false).c.nF n≠0 from b5.o)
  refine⟨Z,?_⟩;rw[HR.o,e2];exact⟨_,g.st⟩
 have K:w.cell? ⟨t.B,6,none⟩=some (t.fb.C:Y):=h.cell 6 _ Z;have y1:w.cell? ⟨t.B,7,none⟩=some (.string ⟨p.b.all.toArray⟩):=h.cell 7 _ Z;have y2:w.cell? ⟨t.B,8,none⟩=some (p.b.sent:Y):=h.cell 8 _ Z;have y3:w.cell? ⟨t.B,9,none⟩=some (.string ⟨p.b.got.toArray⟩):=h.cell 9 _ Z;have y4:w.cell? ⟨t.B,10,none⟩=some (p.b.fin:Y):=h.cell 10 _ Z;have y5:w.cell? ⟨t.B,11,none⟩=some (p.b.closed:Y):=h.cell 11 _ Z;have aa:=H x.zu;have ax:=H (Pr.Dg x true n);have b0:=H x.b.c;have b3:=H hm;have b4:=H x.E0;have ab:=H x.now;have ac:=H h;have bb:=H (show p.b.got.length<=1000000 from hg);obtain⟨a1,bc⟩:=hn;show Calls _ _ #[t.B,(1:Int),n] _ _;clear h x hm hg;obtain⟨R,L⟩:∃R,R=p.recv true n:=⟨_,Z⟩;rw[<-L];have HR:=H L;clear L;have bd:=H (show p.b.c.Fm n=(p.b.c.bx.nB n)from L5 O)
 go_enter Tryz.func20,Tryz.ntmps20
 go_wp2_with fail;clear K y1 y2 y3 y4 y5;change Code.wp _ _ _ _ (w.alloc (.cells (pm t.fb p.b).toArray 34));have g:=H (Ps.new (pE.start ac.o) t.fb p.b);generalize hF:w.heap.size=F at g|-;generalize w.alloc (.cells (pm t.fb p.b).toArray 34)=w1 at g|-;have K:=g.row.cell 0 _ Z;go_wp2_with fail;clear K;refine az (fun W:World=>W.cell? F=some (t.fb.C:Y)/\W.cell? ⟨t.B,13,none⟩=some (p.now:Y)) (⟨g.row.cell 0 _ Z,g.st.cell 13 p.now Z⟩) fun m=>?_;replace g:=H (g.oz (L3 _ _).drew);generalize w1.drew=w3 at g m|-;refine aA 0 1 2 3 ?_;refine aM 4 5 ?_;refine aQ 6 ?_;refine aZ 7 fun u j=> ?_;go_simp;refine(oW t.fb p.b.c p.now n _ g.st.pa.b b0.o aa.o).mono ?_;rintro e M⟨v,rfl,hl,hc,y⟩;have k4:=g.st.pa.G2 true t.fb.G _ hc y (.inl Z);replace g:=H (g.step k4);have b7:=H hl;clear hl hc y k4;dsimp only[nI];rw[bd.o];go_simp;refine j.out _ _ (⟨g.row.cell 0 _ Z,g.st.cell 13 p.now Z⟩) ?_;clear j u m;refine fun m=>aW ?_;refine aA 8 9 10 11 ?_;refine aA 12 13 14 15 ?_;refine aQ 16 ?_;refine ay ?_ _;clear m;by_cases he:p.b.c.nF n=0
 ·have HE:=H (show p.b.c.nF n=0 from he);have be:=H (show p.b.c.Fn n=p.b.c.qF n from(L5 O).trans (L7 HE.o));have ag:=H (show p.recv true n=(p.kd true { p.b with c:=(p.b.c.recv p.now n).1,got:=p.b.got++(p.b.c.bx.nB n),fin:=p.b.fin||p.b.c.qF n }).put true (p.b.c.recv p.now n).2 from by unfold Pr.recv;dsimp only;rw[L5 (show ¬(p.sd true).c.nF n≠0 from fun hh=>hh HE.o)];rfl);go_wp2_with fail;rw[be.o];have bk:=H (oX b0.bx n);have z:∀W:World,(Op.stringOp .add (⟨p.b.got.toArray⟩:ByteArray) (⟨(p.b.c.bx.nB n).toArray⟩:ByteArray)).run Tryz.prog W= .ok (.string ⟨(p.b.got++(p.b.c.bx.nB n)).toArray⟩) W:=fun W=>NX W _ _ KW;refine az (fun W:World=>W.cell? ⟨F,3,none⟩=some (.string ⟨p.b.got.toArray⟩)) (g.row.cell 3 _ Z) fun m=>?_;replace g:=H (g.oz (L3 _ _).drew);have T:=H (b7.below (L3 M.heap.size M).drew);generalize M.drew=w5 at g m T|-;have c3:w5.cell? ⟨t.B,9,none⟩=some (.string ⟨p.b.got.toArray⟩):=g.st.cell 9 _ Z;have f3:=g.st.free 9;have k:=H (g.set 9 (.string ⟨(p.b.got++(p.b.c.bx.nB n)).toArray⟩) (p.kd true { p.b with c:=(p.b.c.recv p.now n).1,got:=p.b.got++(p.b.c.bx.nB n) }) Z Z Z Z Z Z);refine aA 0 1 2 3 ?_;refine aA 4 5 6 7 ?_;refine aM 8 9 ?_;refine aZ 10 fun u j=> ?_;go_simp;refine j.out _ _ (k.row.cell 3 _ Z) ?_;clear j u m;refine fun m=>aW ?_;refine ay ?_ _;clear m c3 f3 z;generalize al:w5.setCell ⟨t.B,9,none⟩ (.string ⟨(p.b.got++(p.b.c.bx.nB n)).toArray⟩)=w6 at k|-;have a5:=H (show aL w6 _ v _ from by rw[<-al];exact T.Ep g.st.pa (by rw[<-g.st.eB];exact(g.st.pa.set 9 (.string ⟨(p.b.got++(p.b.c.bx.nB n)).toArray⟩) (p.kd true { p.b with c:=(p.b.c.recv p.now n).1,got:=p.b.got++(p.b.c.bx.nB n) }) Z Z Z Z Z Z).fr));clear al g T;go_wp2_with fail;by_cases f:p.b.fin=true
  focus
   refine az (fun W:World=>W.cell? ⟨F,4,none⟩=some (true:Y)) (k.row.cell 4 _ K5) fun m=>?_;replace k:=H (k.oz (L3 _ _).drew);have A:=H (a5.below (L3 w6.heap.size w6).drew);generalize w6.drew=w7 at k A m|-;have U:w7.cell? ⟨t.B,10,none⟩=some (true:Y):=(k.st.cell 10 p.b.fin Z).trans (by rw[f]);have V:=k.st.free 10;have s:=H (k.set 10 true (p.kd true { p.b with c:=(p.b.c.recv p.now n).1,got:=p.b.got++(p.b.c.bx.nB n),fin:=true }) Z Z Z Z Z Z);refine aA 0 1 2 3 ?_;refine aQ 4 ?_;refine aU 5 ?_;refine aA 6 7 8 9 ?_;refine aQ 10 ?_;refine aZ 11 fun u j=> ?_;go_simp;refine j.out _ _ (s.row.cell 4 _ K5) ?_;clear j u m;refine fun m=>aW ?_;refine ay ?_ _;clear m U V;generalize E:w7.setCell ⟨t.B,10,none⟩ true=w8 at s|-;have I:=H (show p.recv true n=(p.kd true { p.b with c:=(p.b.c.recv p.now n).1,got:=p.b.got++(p.b.c.bx.nB n),fin:=true }).put true (p.b.c.recv p.now n).2 from by rw[ag.o,f];rfl);have an:=H (show aL w8 _ v _ from by rw[<-E];exact A.Ep k.st.pa (by rw[<-k.st.eB];exact(k.st.pa.set 10 true (p.kd true { p.b with c:=(p.b.c.recv p.now n).1,got:=p.b.got++(p.b.c.bx.nB n),fin:=true }) Z Z Z Z Z Z).fr));clear E f;have J:=H (eJ (X:=p.kd true { p.b with c:=(p.b.c.recv p.now n).1,got:=p.b.got++(p.b.c.bx.nB n),fin:=true }) (i:=true) (l:=(p.b.c.recv p.now n).2) K2 Js (b3.kd true _) O)
  rotate_left 1
  focus
   replace f:p.b.fin=false:=JC
   refine az (fun W:World=>W.cell? ⟨F,4,none⟩=some (false:Y)) (k.row.cell 4 _ K5) fun m=>?_;replace k:=H (k.oz (L3 _ _).drew);have A:=H (a5.below (L3 w6.heap.size w6).drew);generalize w6.drew=w7 at k A m|-;have U:w7.cell? ⟨t.B,10,none⟩=some (false:Y):=(k.st.cell 10 p.b.fin Z).trans (by rw[f]);have V:=k.st.free 10;have s:=H (k.set 10 (p.b.c.qF n) (p.kd true { p.b with c:=(p.b.c.recv p.now n).1,got:=p.b.got++(p.b.c.bx.nB n),fin:=(p.b.c.qF n) }) Z Z Z Z Z Z);refine aA 0 1 2 3 ?_;refine aA 4 5 6 7 ?_;refine aM 8 9 ?_;refine aQ 10 ?_;refine aZ 11 fun u j=> ?_;go_simp;refine j.out _ _ (s.row.cell 4 _ K5) ?_;clear j u m;refine fun m=>aW ?_;refine ay ?_ _;clear m U V;generalize E:w7.setCell ⟨t.B,10,none⟩ (p.b.c.qF n)=w8 at s|-;have I:=H (show p.recv true n=(p.kd true { p.b with c:=(p.b.c.recv p.now n).1,got:=p.b.got++(p.b.c.bx.nB n),fin:=(p.b.c.qF n) }).put true (p.b.c.recv p.now n).2 from by rw[ag.o,f];rfl);have an:=H (show aL w8 _ v _ from by rw[<-E];exact A.Ep k.st.pa (by rw[<-k.st.eB];exact(k.st.pa.set 10 (p.b.c.qF n) (p.kd true { p.b with c:=(p.b.c.recv p.now n).1,got:=p.b.got++(p.b.c.bx.nB n),fin:=(p.b.c.qF n) }) Z Z Z Z Z Z).fr));clear E f;have J:=H (eJ (X:=p.kd true { p.b with c:=(p.b.c.recv p.now n).1,got:=p.b.got++(p.b.c.bx.nB n),fin:=(p.b.c.qF n) }) (i:=true) (l:=(p.b.c.recv p.now n).2) K2 Js (b3.kd true _) O)
  all_goals
   have a0:=cO N _ _ true _ v _ _ s.st.pa an.o J.1 J.2.1 J.2.2 ab.o;rw[s.st.eB,show bI true=1 from Z]at a0;go_wp2_with fail;refine a0.mono ?_;rintro e w9⟨rfl,t9,k9⟩;go_wp2_with fail
   go_end0
   exact⟨Z,t9,by rw[HR.o,I.o];exact s.st.trans k9⟩
 have b5:=H (show ¬p.b.c.nF n=0 from he);go_wp2_with fail
 go_end0
 have e2:p.recv true n=p.ro true (p.b.c.recv p.now n).1:=by unfold Pr.recv;dsimp only;exact L7 (show(p.sd true).c.nF n≠0 from b5.o)
 refine⟨Z,?_⟩;rw[HR.o,e2];exact⟨_,g.st⟩
end
section
set_option maxHeartbeats 8000000
set_option maxRecDepth 100000
open Go.RowKit Go.Shelf
theorem j8 (N:Nat) (t:Ft) (p:Pr) (i:Bool) (n:Int) (w:World) (q r:Int) (h:tT N t p w) (s:Pr.Fit p q r) (hq:q<=90000000) (hr:r<=248800000000) (hm:p.Ml) (hn:0<=n/\n<=1000000) :
  Calls Tryz.prog 22 #[t.B,(bI i),n] w (lA N t w (p.send i n)):=by
 cases i
 ·have y0:w.cell? t.B=some (t.fa.C:Y):=h.cell 0 _ Z;have y1:w.cell? ⟨t.B,1,none⟩=some (.string ⟨p.a.all.toArray⟩):=h.cell 1 _ Z;have y2:w.cell? ⟨t.B,2,none⟩=some (p.a.sent:Y):=h.cell 2 _ Z;have y3:w.cell? ⟨t.B,3,none⟩=some (.string ⟨p.a.got.toArray⟩):=h.cell 3 _ Z;have y4:w.cell? ⟨t.B,4,none⟩=some (p.a.fin:Y):=h.cell 4 _ Z;have y5:w.cell? ⟨t.B,5,none⟩=some (p.a.closed:Y):=h.cell 5 _ Z;have aa:=H s.zu;have ax:=H (Pr.Dz s false n);have x:=H (s.sd false);have b0:=H s.a.c;have b3:=H hm;have b4:=H s.E0;have ab:=H s.now;have L:=H h;obtain⟨a1,bc⟩:=hn;have a2:0<=p.a.sent:=s.a.s0;have a3:p.a.sent<=p.a.all.length:=s.a.sl;have a4:p.a.all.length<=1000:=s.a.len;show Calls _ _ #[t.B,(0:Int),n] _ _;clear h s hm;have hz:(⟨p.a.all.toArray⟩:ByteArray).size=p.a.all.length:=by simp[ByteArray.size]
  obtain⟨R,M⟩:∃R,R=p.send false n:=⟨_,Z⟩;rw[<-M];have K:=H M;clear M
  go_enter Tryz.func22,Tryz.ntmps22
  by_cases j:p.a.closed=true
  ·go_wp2_with fail;refine Lm (LV Z _ _ _) Z ⟨Z,t,?_⟩;rw[K.o];have e:p.send false n=p:=by unfold Pr.send;exact L7 ((.inl j))
   rw[e];exact L.alloc _
  replace j:p.a.closed=false:=by simpa using j
  by_cases A:(p.a.all.length:Int)<=p.a.sent
  ·go_wp2_with fail;refine Lm (LV Z _ _ _) Z ⟨Z,t,?_⟩;rw[K.o];have e:p.send false n=p:=by unfold Pr.send;exact L7 ((.inr A))
   rw[e];exact L.alloc _
  have b8:=H (show ¬((p.sd false).closed=true\/((p.sd false).all.length:Int)<=(p.sd false).sent)from by(rintro (E | E);exact absurd (j.symm.trans E) D;exact A E));go_wp2_with fail;clear y0 y1 y2 y3 y4 y5;change Code.wp _ _ _ _ (w.alloc (.cells (pm t.fa ({ p.a with closed:=false }:Sd)).toArray 34));have f:=H (Ps.new (pE.start L.o) t.fa ({ p.a with closed:=false }:Sd));generalize hF:w.heap.size=F at f|-;generalize w.alloc (.cells (pm t.fa ({ p.a with closed:=false }:Sd)).toArray 34)=w1 at f|-;have bv:=H j;clear j;obtain⟨m,hm⟩:∃m:Int,m=min (p.a.sent+n) p.a.all.length:=⟨_,Z⟩;have a6:p.a.sent<=m:=O
  have bz:m<=p.a.all.length:=O
  have b1:0<=m:=O
  have bl:=H hm;have bn:=H (show Pr.bytes (p.sd false) n=(p.a.all.take m.toNat).drop p.a.sent.toNat from by rw[hm];rfl);clear hm;refine az (fun W:World=>W.cell? F=some (t.fa.C:Y)/\W.cell? ⟨F,1,none⟩=some (.string ⟨p.a.all.toArray⟩)/\W.cell? ⟨F,2,none⟩=some (p.a.sent:Y)/\W.cell? ⟨t.B,13,none⟩=some (p.now:Y)) (⟨f.row.cell 0 _ Z,f.row.cell 1 _ Z,f.row.cell 2 _ Z,f.st.cell 13 p.now Z⟩) fun u=>?_;replace f:=H (f.oz (L3 _ _).drew);generalize w1.drew=w3 at f u|-;refine aA 0 1 2 3 ?_;refine aA 4 5 6 7 ?_;refine aA 8 9 10 11 ?_;refine aQ 12 ?_;refine aQ 13 (v:=.int .i64 (p.a.sent+n)) ?_ (hy:=by intro w g;(obtain⟨z0,z1,z2,z3⟩:=g);go_simp;(rw[LC (p.a.sent+n) O]));refine aM 14 15 ?_;refine aQ 16 ?_;refine aQ 17 (v:=.int .i64 m) ?_ (hy:=KX);refine aQ 18 (v:=.string ⟨(Pr.bytes (p.sd false) n).toArray⟩) ?_ (hy:=KY);refine aZ 19 fun T k=> ?_;go_simp;refine(oV t.fa p.a.c p.now (Pr.bytes (p.sd false) n) _ f.st.pa.a b0.o aa.o (by have h1:=Pr.Ch x.o n;have h2:=x.last;have h3:(p.sd false).all.length<=1000:=x.len;have h4:=x.s0;have h5:=x.sl;show(p.sd false).c.last+_<=_;omega)).mono ?_;rintro e U⟨v,rfl,hl,hc,I⟩;have k4:=f.st.pa.G2 false t.fa.G _ hc I (.inl Z);replace f:=H (f.step k4);have b7:=H hl;clear hl hc I k4;dsimp only[nG];go_simp;refine k.out _ _ (⟨f.row.cell 0 _ Z,f.row.cell 1 _ Z,f.row.cell 2 _ Z,f.st.cell 13 p.now Z⟩) ?_;clear k T u;refine fun u=>aW ?_;refine aA 20 21 22 23 ?_;refine aM 24 25 ?_;refine aQ 26 ?_;refine ay ?_ _;clear u;by_cases he:p.a.c.refusal=0
  ·have HE:=H (show p.a.c.refusal=0 from he);have ag:=H (show p.send false n=(p.kd false { p.a with c:=(p.a.c.send p.now (Pr.bytes (p.sd false) n)).1,sent:=p.a.sent+p.a.c.nX (Pr.bytes (p.sd false) n) }).put false (p.a.c.send p.now (Pr.bytes (p.sd false) n)).2 from by unfold Pr.send;dsimp only;rw[L5 b8.o,L5 (show ¬(p.sd false).c.refusal≠0 from fun E=>E HE.o)];rfl);have bo:=H (show p.a.c.Fi (Pr.bytes (p.sd false) n)=p.a.c.nX (Pr.bytes (p.sd false) n)from L7 HE.o);have bu:0<=p.a.c.nX (Pr.bytes (p.sd false) n)/\p.a.c.nX (Pr.bytes (p.sd false) n)<=1000:=by have h1:=Pr.Ch x.o n;have h3:(p.sd false).all.length<=1000:=x.len;have h4:=x.s0;unfold Cn.nX Cn.space;split <;> omega
   go_wp2_with fail;rw[bo.o];obtain⟨y,z⟩:∃y,y=p.a.c.nX (Pr.bytes (p.sd false) n):=⟨_,Z⟩;have b9:=H z;rw[<-z]at bu|-;clear z;refine az (fun W:World=>W.cell? ⟨F,2,none⟩=some (p.a.sent:Y)) (f.row.cell 2 _ Z) fun u=>?_;replace f:=H (f.oz (L3 _ _).drew);have aC:=H (b7.below (L3 U.heap.size U).drew);generalize U.drew=w5 at f u aC|-;have c3:w5.cell? ⟨t.B,2,none⟩=some (p.a.sent:Y):=f.st.cell 2 _ Z;have f3:=f.st.free 2;have J:=H (f.set 2 (p.a.sent+y:Int) (p.kd false { p.a with c:=(p.a.c.send p.now (Pr.bytes (p.sd false) n)).1,sent:=p.a.sent+p.a.c.nX (Pr.bytes (p.sd false) n) }) (by rw[b9.o];rfl) Z Z Z Z Z);refine aA 0 1 2 3 ?_;refine aQ 4 ?_;refine aQ 5 (v:=.int .i64 (p.a.sent+y)) ?_ (hy:=by intro w g;(try dsimp only at g);go_simp;(rw[LC (p.a.sent+y) O]));refine aA 6 7 8 9 ?_;refine aZ 10 fun T k=> ?_;go_simp;refine k.out _ _ (J.row.cell 2 _ Z) ?_;clear k T u;refine fun u=>aW ?_;refine ay ?_ _;clear u c3 f3;generalize al:w5.setCell ⟨t.B,2,none⟩ (p.a.sent+y:Int)=w6 at J|-;have a5:=H (show aL w6 _ v _ from by rw[<-al];exact aC.Ep f.st.pa (by rw[<-f.st.eB];exact(f.st.pa.set 2 (p.a.sent+y:Int) (p.kd false { p.a with c:=(p.a.c.send p.now (Pr.bytes (p.sd false) n)).1,sent:=p.a.sent+p.a.c.nX (Pr.bytes (p.sd false) n) }) (by rw[b9.o];rfl) Z Z Z Z Z).fr));clear al;have V:=H (eJ (X:=p.kd false { p.a with c:=(p.a.c.send p.now (Pr.bytes (p.sd false) n)).1,sent:=p.a.sent+p.a.c.nX (Pr.bytes (p.sd false) n) }) (i:=false) (l:=(p.a.c.send p.now (Pr.bytes (p.sd false) n)).2) (by rw[<-ag.o];exact ax.o) Js (b3.kd false _) O);have a0:=cO N _ _ false _ v _ _ J.st.pa a5.o V.1 V.2.1 V.2.2 ab.o;rw[J.st.eB,show bI false=0 from Z]at a0;go_wp2_with fail;refine a0.mono ?_;rintro e w9⟨rfl,t9,k9⟩;go_wp2_with fail
   go_end0
   exact⟨Z,t9,by rw[K.o,ag.o];exact J.st.trans k9⟩
  have b5:=H (show ¬p.a.c.refusal=0 from he);go_wp2_with fail
  go_end0
  have e1:(p.a.c.send p.now (Pr.bytes (p.sd false) n)).1=p.a.c:=by unfold Cn.send;rw[L7 b5.o]
  have e2:p.send false n=p:=by unfold Pr.send;dsimp only;rw[L5 b8.o,L7 (show(p.sd false).c.refusal≠0 from b5.o)]
  refine⟨Z,?_⟩;rw[K.o,e2];have:=f.st;rw[im p false (show(p.a.c.send p.now (Pr.bytes (p.sd false) n)).1=(p.sd false).c from e1)]at this;exact⟨_,this⟩
 have y0:w.cell? ⟨t.B,6,none⟩=some (t.fb.C:Y):=h.cell 6 _ Z;have y1:w.cell? ⟨t.B,7,none⟩=some (.string ⟨p.b.all.toArray⟩):=h.cell 7 _ Z;have y2:w.cell? ⟨t.B,8,none⟩=some (p.b.sent:Y):=h.cell 8 _ Z;have y3:w.cell? ⟨t.B,9,none⟩=some (.string ⟨p.b.got.toArray⟩):=h.cell 9 _ Z;have y4:w.cell? ⟨t.B,10,none⟩=some (p.b.fin:Y):=h.cell 10 _ Z;have y5:w.cell? ⟨t.B,11,none⟩=some (p.b.closed:Y):=h.cell 11 _ Z;have aa:=H s.zu;have ax:=H (Pr.Dz s true n);have x:=H (s.sd true);have b0:=H s.b.c;have b3:=H hm;have b4:=H s.E0;have ab:=H s.now;have L:=H h;obtain⟨a1,bc⟩:=hn;have a2:0<=p.b.sent:=s.b.s0;have a3:p.b.sent<=p.b.all.length:=s.b.sl;have a4:p.b.all.length<=1000:=s.b.len;show Calls _ _ #[t.B,(1:Int),n] _ _;clear h s hm;have hz:(⟨p.b.all.toArray⟩:ByteArray).size=p.b.all.length:=IL
 obtain⟨R,M⟩:∃R,R=p.send true n:=⟨_,Z⟩;rw[<-M];have K:=H M;clear M
 go_enter Tryz.func22,Tryz.ntmps22
 by_cases j:p.b.closed=true
 ·go_wp2_with fail;refine Lm (LV Z _ _ _) Z ⟨Z,t,?_⟩;rw[K.o];have e:p.send true n=p:=by unfold Pr.send;exact L7 ((.inl j))
  rw[e];exact L.alloc _
 replace j:p.b.closed=false:=by simpa using j
 by_cases A:(p.b.all.length:Int)<=p.b.sent
 ·go_wp2_with fail;refine Lm (LV Z _ _ _) Z ⟨Z,t,?_⟩;rw[K.o];have e:p.send true n=p:=by unfold Pr.send;exact L7 ((.inr A))
  rw[e];exact L.alloc _
 have b8:=H (show ¬((p.sd true).closed=true\/((p.sd true).all.length:Int)<=(p.sd true).sent)from by(rintro (E | E);exact absurd (j.symm.trans E) D;exact A E));go_wp2_with fail;clear y0 y1 y2 y3 y4 y5;change Code.wp _ _ _ _ (w.alloc (.cells (pm t.fb ({ p.b with closed:=false }:Sd)).toArray 34));have f:=H (Ps.new (pE.start L.o) t.fb ({ p.b with closed:=false }:Sd));generalize hF:w.heap.size=F at f|-;generalize w.alloc (.cells (pm t.fb ({ p.b with closed:=false }:Sd)).toArray 34)=w1 at f|-;have bv:=H j;clear j;obtain⟨m,hm⟩:∃m:Int,m=min (p.b.sent+n) p.b.all.length:=⟨_,Z⟩;have a6:p.b.sent<=m:=O
 have bz:m<=p.b.all.length:=O
 have b1:0<=m:=O
 have bl:=H hm;have bn:=H (show Pr.bytes (p.sd true) n=(p.b.all.take m.toNat).drop p.b.sent.toNat from by rw[hm];rfl);clear hm;refine az (fun W:World=>W.cell? F=some (t.fb.C:Y)/\W.cell? ⟨F,1,none⟩=some (.string ⟨p.b.all.toArray⟩)/\W.cell? ⟨F,2,none⟩=some (p.b.sent:Y)/\W.cell? ⟨t.B,13,none⟩=some (p.now:Y)) (⟨f.row.cell 0 _ Z,f.row.cell 1 _ Z,f.row.cell 2 _ Z,f.st.cell 13 p.now Z⟩) fun u=>?_;replace f:=H (f.oz (L3 _ _).drew);generalize w1.drew=w3 at f u|-;refine aA 0 1 2 3 ?_;refine aA 4 5 6 7 ?_;refine aA 8 9 10 11 ?_;refine aQ 12 ?_;refine aQ 13 (v:=.int .i64 (p.b.sent+n)) ?_ (hy:=by intro w g;(obtain⟨z0,z1,z2,z3⟩:=g);go_simp;(rw[LC (p.b.sent+n) O]));refine aM 14 15 ?_;refine aQ 16 ?_;refine aQ 17 (v:=.int .i64 m) ?_ (hy:=KX);refine aQ 18 (v:=.string ⟨(Pr.bytes (p.sd true) n).toArray⟩) ?_ (hy:=KY);refine aZ 19 fun T k=> ?_;go_simp;refine(oV t.fb p.b.c p.now (Pr.bytes (p.sd true) n) _ f.st.pa.b b0.o aa.o (by have h1:=Pr.Ch x.o n;have h2:=x.last;have h3:(p.sd true).all.length<=1000:=x.len;have h4:=x.s0;have h5:=x.sl;show(p.sd true).c.last+_<=_;omega)).mono ?_;rintro e U⟨v,rfl,hl,hc,I⟩;have k4:=f.st.pa.G2 true t.fb.G _ hc I (.inl Z);replace f:=H (f.step k4);have b7:=H hl;clear hl hc I k4;dsimp only[nG];go_simp;refine k.out _ _ (⟨f.row.cell 0 _ Z,f.row.cell 1 _ Z,f.row.cell 2 _ Z,f.st.cell 13 p.now Z⟩) ?_;clear k T u;refine fun u=>aW ?_;refine aA 20 21 22 23 ?_;refine aM 24 25 ?_;refine aQ 26 ?_;refine ay ?_ _;clear u;by_cases he:p.b.c.refusal=0
 ·have HE:=H (show p.b.c.refusal=0 from he);have ag:=H (show p.send true n=(p.kd true { p.b with c:=(p.b.c.send p.now (Pr.bytes (p.sd true) n)).1,sent:=p.b.sent+p.b.c.nX (Pr.bytes (p.sd true) n) }).put true (p.b.c.send p.now (Pr.bytes (p.sd true) n)).2 from by unfold Pr.send;dsimp only;rw[L5 b8.o,L5 (show ¬(p.sd true).c.refusal≠0 from fun E=>E HE.o)];rfl);have bo:=H (show p.b.c.Fi (Pr.bytes (p.sd true) n)=p.b.c.nX (Pr.bytes (p.sd true) n)from L7 HE.o);have bu:0<=p.b.c.nX (Pr.bytes (p.sd true) n)/\p.b.c.nX (Pr.bytes (p.sd true) n)<=1000:=by have h1:=Pr.Ch x.o n;have h3:(p.sd true).all.length<=1000:=x.len;have h4:=x.s0;unfold Cn.nX Cn.space;split <;> omega
  go_wp2_with fail;rw[bo.o];obtain⟨y,z⟩:∃y,y=p.b.c.nX (Pr.bytes (p.sd true) n):=⟨_,Z⟩;have b9:=H z;rw[<-z]at bu|-;clear z;refine az (fun W:World=>W.cell? ⟨F,2,none⟩=some (p.b.sent:Y)) (f.row.cell 2 _ Z) fun u=>?_;replace f:=H (f.oz (L3 _ _).drew);have aC:=H (b7.below (L3 U.heap.size U).drew);generalize U.drew=w5 at f u aC|-;have c3:w5.cell? ⟨t.B,8,none⟩=some (p.b.sent:Y):=f.st.cell 8 _ Z;have f3:=f.st.free 8;have J:=H (f.set 8 (p.b.sent+y:Int) (p.kd true { p.b with c:=(p.b.c.send p.now (Pr.bytes (p.sd true) n)).1,sent:=p.b.sent+p.b.c.nX (Pr.bytes (p.sd true) n) }) (by rw[b9.o];rfl) Z Z Z Z Z);refine aA 0 1 2 3 ?_;refine aQ 4 ?_;refine aQ 5 (v:=.int .i64 (p.b.sent+y)) ?_ (hy:=by intro w g;(try dsimp only at g);go_simp;(rw[LC (p.b.sent+y) O]));refine aA 6 7 8 9 ?_;refine aZ 10 fun T k=> ?_;go_simp;refine k.out _ _ (J.row.cell 2 _ Z) ?_;clear k T u;refine fun u=>aW ?_;refine ay ?_ _;clear u c3 f3;generalize al:w5.setCell ⟨t.B,8,none⟩ (p.b.sent+y:Int)=w6 at J|-;have a5:=H (show aL w6 _ v _ from by rw[<-al];exact aC.Ep f.st.pa (by rw[<-f.st.eB];exact(f.st.pa.set 8 (p.b.sent+y:Int) (p.kd true { p.b with c:=(p.b.c.send p.now (Pr.bytes (p.sd true) n)).1,sent:=p.b.sent+p.b.c.nX (Pr.bytes (p.sd true) n) }) (by rw[b9.o];rfl) Z Z Z Z Z).fr));clear al;have V:=H (eJ (X:=p.kd true { p.b with c:=(p.b.c.send p.now (Pr.bytes (p.sd true) n)).1,sent:=p.b.sent+p.b.c.nX (Pr.bytes (p.sd true) n) }) (i:=true) (l:=(p.b.c.send p.now (Pr.bytes (p.sd true) n)).2) (by rw[<-ag.o];exact ax.o) Js (b3.kd true _) O);have a0:=cO N _ _ true _ v _ _ J.st.pa a5.o V.1 V.2.1 V.2.2 ab.o;rw[J.st.eB,show bI true=1 from Z]at a0;go_wp2_with fail;refine a0.mono ?_;rintro e w9⟨rfl,t9,k9⟩;go_wp2_with fail
  go_end0
  exact⟨Z,t9,by rw[K.o,ag.o];exact J.st.trans k9⟩
 have b5:=H (show ¬p.b.c.refusal=0 from he);go_wp2_with fail
 go_end0
 have e1:(p.b.c.send p.now (Pr.bytes (p.sd true) n)).1=p.b.c:=by unfold Cn.send;rw[L7 b5.o]
 have e2:p.send true n=p:=by unfold Pr.send;dsimp only;rw[L5 b8.o,L7 (show(p.sd true).c.refusal≠0 from b5.o)]
 refine⟨Z,?_⟩;rw[K.o,e2];have:=f.st;rw[im p true (show(p.b.c.send p.now (Pr.bytes (p.sd true) n)).1=(p.sd true).c from e1)]at this;exact⟨_,this⟩
end
section
set_option maxHeartbeats 8000000
set_option maxRecDepth 100000
open Go.RowKit Go.Shelf
theorem lY {s o:Sd}(h:Pr.AB s o=false)(hl:o.sent<=o.all.length):(s.got.length:Int)<=o.sent/\s.got=o.all.take s.got.length/\(s.fin=true->o.closed=true/\(s.got.length:Int)=o.sent):=by
 unfold Pr.AB at h;rw[MO,MO,Lr,Lr]at h;obtain⟨h1,h2,a⟩:=h;refine⟨O,?_,fun b=> ?_⟩
 ·have e:=Decidable.not_not.1 h2
  rwa [show min s.got.length o.all.length=s.got.length by omega]at e
 rw[b]at a
 cases hc:o.closed with
 | false=>rw[hc]at a;cases a
 | true =>
  rw[hc]at a;exact⟨Z,Ja⟩
theorem wV (N:Nat) (t:Ft) (p:Pr) (w:World) (q r:Int) (h:tT N t p w) (j:Pr.Fit p q r) (h1:Pr.AB p.a p.b=false) (h2:Pr.AB p.b p.a=false) :
  Calls Tryz.prog 12 #[t.B] w fun e w'=>e= .returned (0:Int)/\Below w.heap.size w w':=by
 have W:=H h;have X:=H (lY h1 j.b.sl);have HB:=H (lY h2 j.a.sl);have cL:=j.a.sl;have cM:=j.a.len;have cS:=j.b.sl;have cT:=j.b.len;clear h h1 h2 j
 go_enter Tryz.func12,Tryz.ntmps12
 go_wp2_with fail
 go_loopg [3,4] 2 (fun g nv iv wr=>∃(k:Nat),nv=((0:Int):Y)/\iv=((k:Int):Y)/\g+k=2/\Below w.heap.size w wr)
 case atStart=>exact⟨0,Z,Z,Z,.refl _ _⟩
 case round =>
  obtain⟨k,rfl,rfl,cV,z⟩:=hrel;have m:=H z;have f:=H (W.oz z);clear z;have cC:=f.pa.lt;have A:k=0\/k=1\/k=2:=O
  rcases A with E | F | G
  ·subst E;have y0:wr.cell? ⟨t.B,3,none⟩=some (.string ⟨p.a.got.toArray⟩):=f.cell 3 _ Z;have x0:wr.cell? ⟨t.B,6,none⟩=some (t.fb.C:Y):=f.cell 6 _ Z;have x1:wr.cell? ⟨t.B,7,none⟩=some (.string ⟨p.b.all.toArray⟩):=f.cell 7 _ Z;have x2:wr.cell? ⟨t.B,8,none⟩=some (p.b.sent:Y):=f.cell 8 _ Z;have x3:wr.cell? ⟨t.B,9,none⟩=some (.string ⟨p.b.got.toArray⟩):=f.cell 9 _ Z;have x4:wr.cell? ⟨t.B,10,none⟩=some (p.b.fin:Y):=f.cell 10 _ Z;have I:wr.cell? ⟨t.B,11,none⟩=some (p.b.closed:Y):=f.cell 11 _ Z;obtain⟨g1,s,l⟩:=X.o;have J:(⟨p.a.got.toArray⟩:ByteArray).size=p.a.got.length:=by simp[ByteArray.size]
   have K:(⟨p.b.all.toArray⟩:ByteArray).size=p.b.all.length:=IL
   have L:decide (p.b.sent<(p.a.got.length:Int))=false:=Lf O;have u:min (p.a.got.length:Int) (p.b.all.length:Int)=(p.a.got.length:Int):=O
   have M:(p.a.got.length:Int)<=(p.b.all.length:Int):=O
   have T:(⟨p.b.all.toArray⟩:ByteArray).extract 0 p.a.got.length=⟨p.a.got.toArray⟩:=by rw[iE,MH,<-s]
   clear s;by_cases i:p.a.fin=true
   ·obtain⟨x,y⟩:=l i;have U:wr.cell? ⟨t.B,4,none⟩=some (true:Y):=(f.cell 4 p.a.fin Z).trans (by rw[i]);rw[x]at I;have V:((p.a.got.length:Int) != p.b.sent)=false:=by rw[y];simp
    clear l i x y;go_wp2_with fail
    go_roundg (gk-1)
    case measure=>omega
    case rel=>exact⟨1,IP,IP,O,ai m.o ((L3 wr.heap.size wr).alloc (L4 _) _)⟩
   have U:wr.cell? ⟨t.B,4,none⟩=some (false:Y):=(f.cell 4 p.a.fin Z).trans Jl;clear l i;go_wp2_with fail
   go_roundg (gk-1)
   case measure=>omega
   case rel=>exact⟨1,IP,IP,O,ai m.o ((L3 wr.heap.size wr).alloc (L4 _) _)⟩
  ·subst F;have y0:wr.cell? ⟨t.B,9,none⟩=some (.string ⟨p.b.got.toArray⟩):=f.cell 9 _ Z;have x0:wr.cell? t.B=some (t.fa.C:Y):=f.cell 0 _ Z;have x1:wr.cell? ⟨t.B,1,none⟩=some (.string ⟨p.a.all.toArray⟩):=f.cell 1 _ Z;have x2:wr.cell? ⟨t.B,2,none⟩=some (p.a.sent:Y):=f.cell 2 _ Z;have x3:wr.cell? ⟨t.B,3,none⟩=some (.string ⟨p.a.got.toArray⟩):=f.cell 3 _ Z;have x4:wr.cell? ⟨t.B,4,none⟩=some (p.a.fin:Y):=f.cell 4 _ Z;have I:wr.cell? ⟨t.B,5,none⟩=some (p.a.closed:Y):=f.cell 5 _ Z;obtain⟨g1,s,l⟩:=HB.o;have J:(⟨p.b.got.toArray⟩:ByteArray).size=p.b.got.length:=by simp[ByteArray.size]
   have K:(⟨p.a.all.toArray⟩:ByteArray).size=p.a.all.length:=IL
   have L:decide (p.a.sent<(p.b.got.length:Int))=false:=Lf O;have u:min (p.b.got.length:Int) (p.a.all.length:Int)=(p.b.got.length:Int):=O
   have M:(p.b.got.length:Int)<=(p.a.all.length:Int):=O
   have T:(⟨p.a.all.toArray⟩:ByteArray).extract 0 p.b.got.length=⟨p.b.got.toArray⟩:=by rw[iE,MH,<-s]
   clear s;by_cases i:p.b.fin=true
   ·obtain⟨x,y⟩:=l i;have U:wr.cell? ⟨t.B,10,none⟩=some (true:Y):=(f.cell 10 p.b.fin Z).trans (by rw[i]);rw[x]at I;have V:((p.b.got.length:Int) != p.a.sent)=false:=by rw[y];simp
    clear l i x y;go_wp2_with fail
    go_roundg (gk-1)
    case measure=>omega
    case rel=>exact⟨2,IP,IP,O,ai m.o ((L3 wr.heap.size wr).alloc (L4 _) _)⟩
   have U:wr.cell? ⟨t.B,10,none⟩=some (false:Y):=(f.cell 10 p.b.fin Z).trans Jl;clear l i;go_wp2_with fail
   go_roundg (gk-1)
   case measure=>omega
   case rel=>exact⟨2,IP,IP,O,ai m.o ((L3 wr.heap.size wr).alloc (L4 _) _)⟩
  subst G;go_wp2;go_ret;exact⟨Z,m.o⟩
end
end Go.Proofs.YtcmncipikdpnbaaGreatDoor
