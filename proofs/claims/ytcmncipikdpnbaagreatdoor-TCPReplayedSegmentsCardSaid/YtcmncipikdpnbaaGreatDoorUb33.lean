import Derived.Test.YtcmncipikdpnbaaGreatDoorUb21
import Derived.Test.YtcmncipikdpnbaaGreatDoorUb32
namespace Go.Proofs.YtcmncipikdpnbaaGreatDoor
section
theorem yX {ki:Int}{off:Nat}(h:off<=100000):aE (aw ki off) (aw ki 1)=(off:Int)-1:=by unfold aE aw;omega
theorem vZ (c:Cn)(now:Int)(s:Sg)(off:Int):(c.store now s off).A2=c.A2:=by
 unfold Cn.store;split
 ·rfl
 split
 ·split
  ·unfold Cn.xa;split <;> rfl
  rfl
 rfl
theorem yY (c:Cn)(now:Int)(s:Sg)(off:Int):(c.tl now s off).A2=c.A2:=by
 unfold Cn.tl;dsimp only;have h1:(if s.fin=true/\aV c.st=true/\c.ended=false/\c.bx.nx<=off+s.s.length then { c with ended:=true,sw:=off+s.s.length }else c).A2=c.A2:=J1
 generalize (if s.fin=true/\aV c.st=true/\c.ended=false/\c.bx.nx<=off+s.s.length then { c with ended:=true,sw:=off+s.s.length }else c)=d at h1|-;split
 ·rw[<-h1];exact(cJ { d with over:=true } now 6).A2
 exact h1
theorem ve (c:Cn):Fx c c.expire.1/\c.expire.1.st=c.st:=by
 unfold Cn.expire;split
 ·exact⟨⟨Z,Z,Z,Z⟩,Z⟩
 split
 ·exact⟨.refl c,Z⟩
 exact⟨ic c _,(hU c false).1⟩
theorem mu (c:Cn)(now:Int)(l:List Sg):Fx c (c.sg now l).1/\(c.sg now l).1.st=c.st:=by
 unfold Cn.sg;dsimp only;split
 ·exact⟨(show Fx c c.i2 from⟨Z,Z,Z,Z⟩).trans (bF _ now),dL c.i2 now⟩
 exact⟨bF c now,dL c now⟩
theorem tg (c:Cn)(now:Int):Fx c (c.tick now).1/\((c.tick now).1.st=c.st\/(c.tick now).1.st=0):=by
 unfold Cn.tick;split
 ·exact⟨.refl c,.inl Z⟩
 split
 ·exact⟨cU c _ _ _,.inr (dA c now _ (.inr Z))⟩
 split
 ·dsimp only;split
  ·exact⟨(show Fx c { c with tries:=c.tries+1 }from⟨Z,Z,Z,Z⟩).trans (cU _ _ _ _),.inr (dA _ now _ (.inr Z))⟩
  have a:Fx c { c with tries:=c.tries+1,tm:=c.tm.rl.kf,dl:=.Ck now c.tm.rl.kf.value }:=⟨Z,Z,Z,Z⟩;split
  ·obtain⟨b,e⟩:=ve { c with tries:=c.tries+1,tm:=c.tm.rl.kf,dl:=.Ck now c.tm.rl.kf.value };obtain⟨f,g⟩:=mu (Cn.expire { c with tries:=c.tries+1,tm:=c.tm.rl.kf,dl:=.Ck now c.tm.rl.kf.value }).1 now (Cn.expire { c with tries:=c.tries+1,tm:=c.tm.rl.kf,dl:=.Ck now c.tm.rl.kf.value }).2;exact⟨(a.trans b).trans f,.inl (g.trans e)⟩
  exact⟨a.trans (pJ _),.inl (by unfold Cn.Cc;split <;> rfl)⟩
 have:=mu c now [];exact⟨this.1,.inl this.2⟩
theorem yZ (c:Cn)(now:Int)(he:c.z8=0):Fx c (c.close now).1/\(c.st=1->(c.close now).1.st=0):=by
 have b:¬(c.st=0\/c.shut=true):=fun e=>by unfold Cn.z8 at he;rw[L9 e]at he;cases he
 have a:Fx c { c with shut:=true }:=⟨Z,Z,Z,Z⟩;unfold Cn.close;rw[L7 b];dsimp only;split
 ·rename_i h1;refine⟨a.trans (cU _ _ _ _),fun _=> ?_⟩;show(Cn.step { c with shut:=true } now 5).st=0;rw[Cn.Dd];dsimp only;rw[h1];rfl
 split
 ·rename_i h1 h2;exact⟨a.trans (bF _ now),fun h=>absurd h h1⟩
 rename_i h1 h2;exact⟨(a.trans (cJ _ now 5)).trans (bF _ now),fun h=>absurd h h1⟩
theorem AO (c:Cn)(now:Int)(x:List UInt8):Fx c (c.send now x).1/\(c.send now x).1.st=c.st:=by
 unfold Cn.send;split
 ·exact⟨.refl c,Z⟩
 exact⟨(show Fx c { c with held:=c.held++x.take (c.pd x).toNat }from⟨Z,Z,Z,Z⟩).trans (bF _ now),dL _ now⟩
namespace RB
variable {S S' : List UInt8} {cl cl' : Bool} {ki : Int} {c d : Cn} {got : List UInt8}
theorem receive (h:RB S cl c got)(hi:0<=ki/\ki<=4294967295)(j:Ir ki c)(now:Int){s:Sg}{k:Kx}(g:GS k s)(F:k.S=S)(G:k.cl=cl)(I:k.ki=ki):RB S cl (c.receive now s).1 got/\Ir ki (c.receive now s).1:=by
 have J:=h.pi.small;have u:=g.dat;rw[F,G,I]at u;unfold Cn.receive;split
 ·exact⟨h,j⟩
 rename_i h0;split
 ·exact⟨h,j⟩
 split
 ·rename_i h1;unfold Cn.Ct;split
  ·split <;> exact⟨h,j⟩
  split
  ·exact⟨h.fx (cU _ _ _ _),.inl (dA c now _ (.inl Z))⟩
  split
  ·exact⟨h,j⟩
  rename_i hy;have hy:s.syn=true:=Jt
  have w:s.te=false:=by
   cases hq:s.te with
   | false=>rfl
   | true=>have:=(g.te hq).2.2;rw[hy]at this;cases this
  obtain⟨off,g1,-,K,-⟩:=u w;have L:=(K hy).1;have l:s.sq=ki:=by rw[g1,L];unfold aw;omega
  have i:∀x:Cn,x.bx=c.bx->x.ended=c.ended->x.sw=c.sw->x.A2=s.sq->∀e,Fx x e->RB S cl e got/\Ir ki e:=fun x M N T U e f =>
   ⟨(RB.mk (by rw[M];exact h.pi) (by rw[N,T];exact h.en):RB S cl x got).fx f,.inr (.inr (f.A2.trans (U.trans l)))⟩
  dsimp only;split
  ·exact i { c.meet s with tries:=0 } Z Z Z Z _ ((cJ _ now 2).trans (pJ _))
  refine i { ({ c.meet s with tries:=0 }:Cn)with sc:=(c.meet s).sc.i1 1 [],tm:=(c.meet s).tm.i1 now 1 } Z Z Z Z _ ?_;refine Fx.trans ?_ (bF _ now);have t:=cJ { ({ c.meet s with tries:=0 }:Cn)with sc:=(c.meet s).sc.i1 1 [],tm:=(c.meet s).tm.i1 now 1 } now 3;exact⟨t.bx,t.A2,t.ended,t.sw⟩
 rename_i h1
 have l:c.A2=ki:=by
  rcases j with h | h | h
  ·exact absurd h h0
  ·exact absurd h h1
  exact h
 have i:∀e,Fx c e->RB S cl e got/\Ir ki e:=fun e f=>⟨h.fx f,.inr (.inr (f.A2.trans l))⟩;unfold Cn.Cw;dsimp only;split
 ·exact i _ (cU _ _ _ _)
 split
 ·exact⟨h,j⟩
 split
 ·refine i _ ?_;unfold Cn.stray;dsimp only
  have y:Fx c (if bf c.st=true/\s.has=true/\s.syn=false/\c.gi<=aE s.ak c.cf.ki/\aE s.ak c.cf.ki<=c.next then c.i1 now s (aE s.ak c.cf.ki)else c):=by
   split
   ·exact eP c now s _
   exact .refl c
  generalize (if bf c.st=true/\s.has=true/\s.syn=false/\c.gi<=aE s.ak c.cf.ki/\aE s.ak c.cf.ki<=c.next then c.i1 now s (aE s.ak c.cf.ki)else c)=a at y|-
  have f2:Fx c (if a.st=9/\s.fin=true then { a with per:=.Ck now 60 }else a):=by
   split
   ·exact y.trans ⟨Z,Z,Z,Z⟩
   exact y
  generalize (if a.st=9/\s.fin=true then { a with per:=.Ck now 60 }else a)=b at f2|-;split
  ·exact(f2.trans (show Fx b b.i2 from⟨Z,Z,Z,Z⟩)).trans (bF _ now)
  exact f2.trans (bF _ now)
 split
 ·exact i _ ((show Fx c c.i2 from⟨Z,Z,Z,Z⟩).trans (bF _ now))
 split
 ·exact⟨h,j⟩
 rename_i m _
 have w:s.te=false:=by
  cases hq:s.te with
  | false=>rfl
  | true=>exact absurd (.inl hq) m
 have hy:s.syn=false:=by
  cases hq:s.syn with
  | false=>rfl
  | true=>exact absurd (.inr hq) m
 obtain⟨off,g1,W,-,V,A,B⟩:=u w;have C:=V hy;obtain⟨o,E⟩:∃o:Nat,off=o+1:=⟨off-1,O⟩
 have e:c.offset s.sq=(o:Int):=by
  unfold Cn.offset;rw[g1,l,yX O,E];omega
 subst E;rw[Nat.add_sub_cancel]at A B;rw[e]
 have z:∀x,Fx c x->RB S cl (((x.store now s o).tl now s o).push now).1 got/\Ir ki (((x.store now s o).tl now s o).push now).1:=fun x f =>
  ⟨((((h.fx f).store now A).tl now B).fx (bF _ now)),.inr (.inr (by rw[(bF _ now).A2,yY,vZ,f.A2,l]))⟩
 unfold Cn.process;dsimp only;split
 ·split
  ·exact⟨h,j⟩
  split
  ·exact z _ (((cJ c now 4).trans (cJ _ now 5)).trans (eP _ now s _))
  exact z _ ((cJ c now 4).trans (eP _ now s _))
 split
 ·exact i _ ((show Fx c c.i2 from⟨Z,Z,Z,Z⟩).trans (bF _ now))
 exact z _ (eP c now s _)
theorem recv (h:RB S cl c got)(now:Int){n:Int}(e:0<=n):RB S cl (c.recv now n).1 (got++c.bx.ox n)/\(c.recv now n).1.A2=c.A2/\(c.recv now n).1.st=c.st/\(c.v8 n=true->cl=true/\(got++c.bx.ox n).length=S.length):=by
 obtain⟨p1,f,-⟩:=h.pi.take n;have b:RB S cl { c with bx:=c.bx.take n } (got++c.bx.ox n):=⟨p1,h.en⟩
 have he:c.v8 n=true->cl=true/\(got++c.bx.ox n).length=S.length:=by
  intro a;unfold Cn.v8 Cn.reached at a;rw[LD,LD,Lj,Lj]at a;have h1:=h.en a.1.1;have h2:=p1.rd;have g:(c.bx.take n).nx=c.sw:=a.1.2;exact⟨h1.1,O⟩
 unfold Cn.recv;rw[L7 O];dsimp only;split
 ·exact⟨b,Z,Z,he⟩
 split
 ·exact⟨b,Z,Z,he⟩
 refine⟨b.fx ((show Fx { c with bx:=c.bx.take n } (Cn.i2 { c with bx:=c.bx.take n })from⟨Z,Z,Z,Z⟩).trans (bF _ now)),(bF _ now).A2,dL _ now,he⟩
end RB
def Sd.str (s:Sd):List UInt8:=s.all.take s.sent.toNat
theorem E2.EF {s:Sd}(h:E2 s):s.str.length=s.sent.toNat:=by
 have:=h.sl;have:=h.s0;unfold Sd.str;rw[Lg];omega
namespace Pr
structure BX where
 ki:Bool->Int
 m:Int
 r:Bool->Int
def D9 (P:BX)(i:Bool)(L:List Fl):Int:=L.foldl (fun e f=>if f.dst=i/\f.s.has=true/\f.s.syn=false then max e (aE f.s.ak (aw (P.ki i) 1)+f.s.win)else e) (P.r (!i))
def kx (P:BX)(p:Pr)(i:Bool):Kx:=⟨(p.sd i).str,(p.sd i).closed,P.ki i,P.m,P.r i,D9 P i p.log⟩
structure ID (P:BX)(L:List Fl)(f:Fl):Prop where
 len:(f.s.s.length:Int)<=P.m
 win:f.s.win<=P.r (!f.dst)
 lim:f.s.s≠[]->aE f.s.sq (aw (P.ki (!f.dst)) 1)+f.s.s.length<=D9 P (!f.dst) L+1
 pos:f.s.s≠[]->0<=aE f.s.sq (aw (P.ki (!f.dst)) 1)
theorem BT {k:Kx}{s:Sg}(g:GS k s)(f:k.S.length<=1000)(hs:s.s≠[]):0<=aE s.sq (aw k.ki 1):=by
 have a:s.te=false:=by
  cases hq:s.te with
  | false=>rfl
  | true=>exact absurd (g.te hq).1 hs
 obtain⟨off,h1,h2,b,e,-⟩:=g.dat a
 have hy:s.syn=false:=by
  cases hq:s.syn with
  | false=>rfl
  | true=>exact absurd (b hq).2.1 hs
 have:=e hy;rw[h1,yX O];omega
structure PV (P:BX)(p:Pr):Prop where
 s:∀i,SI (kx P p i) (p.sd i).c/\U1 (p.sd i).c
 r:∀i,RB (p.sd (!i)).str (p.sd (!i)).closed (p.sd i).c (p.sd i).got/\Ir (P.ki (!i)) (p.sd i).c/\((p.sd i).fin=true->(p.sd (!i)).closed=true/\(p.sd i).got.length=(p.sd (!i)).str.length)
 w:∀f∈p.wire,GS (kx P p (!f.dst)) f.s/\iM (kx P p f.dst) f.s
 g:∀L f M,p.log=L++f::M->ID P L f
theorem kD (P:BX)(i:Bool)(L:List Fl)(f:Fl):D9 P i (L++[f])=if f.dst=i/\f.s.has=true/\f.s.syn=false then max (D9 P i L) (aE f.s.ak (aw (P.ki i) 1)+f.s.win)else D9 P i L:=by
 unfold D9;rw[N5];rfl
theorem Gc (P:BX)(i:Bool)(L:List Fl):P.r (!i)<=D9 P i L:=by
 have a:∀(L:List Fl) (e:Int),e<=L.foldl (fun e f=>if f.dst=i/\f.s.has=true/\f.s.syn=false then max e (aE f.s.ak (aw (P.ki i) 1)+f.s.win)else e) e:=by
  intro L
  induction L with
  | nil=>exact fun e=>Lb e
  | cons f L b =>
   intro e;rw[Nn];split
   ·exact LE O (b _)
   exact b e
 exact a L _
theorem ya (p:Pr)(i:Bool)(d:Sd):(p.kl i d).sd i=d/\(p.kl i d).sd (!i)=p.sd (!i)/\(p.kl i d).wire=p.wire/\(p.kl i d).now=p.now/\(p.kl i d).log=p.log:=by cases i <;> exact⟨Z,Z,Z,Z,Z⟩
theorem yb {p:Pr}{f g:Fl}(h:g∈p.D6 f):g.dst=f.dst/\g.s=f.s:=by
 unfold D6 at h
 (repeat' split at h) <;> simp at h <;> rw[h] <;> exact⟨Z,Z⟩
theorem sW {α:Type}{A L M:List α}{x y:α}(h:A++[x]=L++y::M):(∃a,A=L++y::a)\/(L=A/\y=x):=by
 rcases List.eq_nil_or_concat M with rfl | ⟨a,z,rfl⟩
 ·have:=List.append_inj' h Z
  injection this.2 with h1 h2
  exact .inr ⟨this.1.symm,h1.symm⟩
 have e:L++y::(a++[z])=(L++y::a)++[z]:=IK
 rw[List.concat_eq_append,e]at h;exact .inl ⟨a,(List.append_inj' h Z).1⟩
variable {P : BX} {p : Pr} {q r : Int}
theorem ks (i j:Bool):j=i\/j= !i:=by cases i <;> cases j <;> simp
theorem PV.z7 (h:PV P p)(i:Bool){s:Sg}(g:GS (kx P p i) s):PV P (p.z7 i s)/\kx P (p.z7 i s) i=kx P p i:=by
 have a:∀j,(p.z7 i s).sd j=p.sd j:=fun j=>by cases j <;> rfl
 have l:(p.z7 i s).log=p.log++[p.fl i s]:=Z;have b:(p.fl i s).dst= !i:=Z;have hs:(p.fl i s).s=s:=Z
 have t:kx P (p.z7 i s) i=kx P p i:=by
  unfold kx;rw[a,l,kD,b,L7 (fun m=>by have:=m.1;cases i <;> cases this)]
 have gw:∀j,Gw (kx P p j) (kx P (p.z7 i s) j):=fun j=>⟨.inl ⟨by show((p.z7 i s).sd j).str=_;rw[a];rfl,fun u=>by show((p.z7 i s).sd j).closed=true;rw[a];exact u⟩,Z,Z,Z,by
  show D9 P j p.log<=D9 P j (p.z7 i s).log;rw[l,kD];split <;> omega⟩
 have told:iM (kx P (p.z7 i s) (!i)) s:=by
  refine⟨fun h1 h2=> ?_,fun h1=> ?_⟩
  ·show aE s.ak (aw (P.ki (!i)) 1)+s.win<=D9 P (!i) (p.z7 i s).log;rw[l,kD,L9 ⟨b,h1,h2⟩,hs];omega
  show s.win<=D9 P (!i) (p.z7 i s).log;have h2:=Gc P (!i) (p.z7 i s).log;rw[LI]at h2;exact LE g.win h2
 have x:s.s≠[]->0<=aE s.sq (aw (P.ki i) 1):=fun o=>BT (k:=kx P p i) g (h.s i).1.sm o;refine⟨⟨fun j=> ?_,fun j=> ?_,fun f e=> ?_,fun L f M m=> ?_⟩,t⟩
 ·rw[a];exact⟨(h.s j).1.gw (gw j) (by show((p.z7 i s).sd j).str.length<=1000;rw[a];exact(h.s j).1.sm) (by show((p.z7 i s).sd j).str=_;rw[a];rfl) (by show((p.z7 i s).sd j).closed=_;rw[a];rfl),(h.s j).2⟩
 ·rw[a,a];exact h.r j
 ·rcases LH.1 e with e | e
  ·have:=h.w f e;exact⟨this.1.gw (gw _),this.2.gw (gw _)⟩
  obtain⟨h1,h2⟩:=yb e;rw[h1,h2,b,hs,LI,t];exact⟨g,told⟩
 rw[l]at m
 rcases sW m with⟨y,h1⟩ | ⟨h1,h2⟩
 ·exact h.g L f y h1
 rw[h1,h2];exact⟨g.len,by rw[b,LI];exact g.win,by rw[b,LI];exact g.lim,by rw[b,LI];exact x⟩
theorem PV.put (i:Bool):∀(l:List Sg) {p:Pr},PV P p->(∀s∈l,GS (kx P p i) s)->PV P (p.put i l):=by
 intro l
 induction l with
 | nil=>intro p h _;exact h
 | cons s l b =>
  intro p h a;obtain⟨h1,h2⟩:=h.z7 i (a s M7);exact b h1 (fun x e=>by rw[h2];exact a x (Mj _ e))
theorem PV.act (h:PV P p)(i:Bool){d:Sd}{l:List Sg}{k:Kx}(F:k=⟨d.str,d.closed,P.ki i,P.m,P.r i,D9 P i p.log⟩)(g:(d.str=(p.sd i).str/\((p.sd i).closed=true->d.closed=true))\/((p.sd i).closed=false/\∃x,d.str=(p.sd i).str++x))(hlen:d.str.length<=1000)(G:jQ k (d.c,l))
  (I:RB (p.sd (!i)).str (p.sd (!i)).closed d.c d.got)(hi:Ir (P.ki (!i)) d.c)(J:d.fin=true->(p.sd (!i)).closed=true/\d.got.length=(p.sd (!i)).str.length):PV P ((p.kl i d).put i l):=by
 subst F;obtain⟨hs,K,N⟩:=G;obtain⟨e,o,T,s4,u⟩:=ya p i d;have a:(!!i)=i:=LI i;have y:kx P (p.kl i d) i=⟨d.str,d.closed,P.ki i,P.m,P.r i,D9 P i p.log⟩:=by unfold kx;rw[e,u]
 have z:kx P (p.kl i d) (!i)=kx P p (!i):=by unfold kx;rw[o,u]
 have gw:Gw (kx P p i) (kx P (p.kl i d) i):=by rw[y];exact⟨g,Z,Z,Z,Lb _⟩
 refine PV.put i l ⟨fun j=> ?_,fun j=> ?_,fun f b=> ?_,fun L f M A=> ?_⟩ (by rw[y];exact K)
 ·rcases ks i j with rfl | rfl
  ·rw[e,y];exact⟨hs,N⟩
  rw[o,z];exact h.s _
 ·rcases ks i j with rfl | rfl
  ·rw[e,o];exact⟨I,hi,J⟩
  rw[o,a,e];obtain⟨B,C,E⟩:=h.r (!i);rw[a]at B C E;refine⟨B.gw g hlen,C,fun U=> ?_⟩;have:=E U
  rcases g with⟨t,V⟩ | ⟨t,-⟩
  ·rw[t];exact⟨V this.1,this.2⟩
  rw[this.1]at t;cases t
 ·rw[T]at b;obtain⟨W,X⟩:=h.w f b
  have:∀j,Gw (kx P p j) (kx P (p.kl i d) j):=fun j=>by
   rcases ks i j with rfl | rfl
   ·exact gw
   rw[z];exact .refl _
  exact⟨W.gw (this _),X.gw (this _)⟩
 rw[u]at A;exact h.g L f M A
theorem BU (p:Pr)(i j:Bool)(l:List Sg):(p.put i l).sd j=p.sd j:=by
 have:=mc i l p
 cases j
 ·exact this.1
 exact this.2.1
theorem E3 (h:Fit p q r)(i:Bool):(p.sd i).str.length<=1000:=by
 have h1:=h.sd i;have:=h1.EF;have:=h1.sl;have:=h1.len;omega
def BX.Ok (P:BX):Prop:=∀i,0<=P.ki i/\P.ki i<=4294967295
theorem PV.kd (h:PV P p)(k:Fit p q r)(b:P.Ok){f:Fl}(e:f.s.Ok){k1 a:Kx}(i:k1.S=(p.sd (!f.dst)).str)(j:k1.cl=(p.sd (!f.dst)).closed)(l:k1.ki=P.ki (!f.dst))(g:GS k1 f.s)(m:Gw a (kx P p f.dst))(t:iM a f.s):PV P (p.kd f):=by
 have hs:=k.sd f.dst;obtain⟨o,u⟩:=h.s f.dst;obtain⟨w,x,y⟩:=h.r f.dst;obtain⟨z,A⟩:=w.receive (b _) x p.now g i j l;exact h.act f.dst (d:={ p.sd f.dst with c:=((p.sd f.dst).c.receive p.now f.s).1 }) Z (.inl ⟨Z,id⟩) (E3 k _) (o.receive hs.c k.Cq e u (t.gw m)) z A y
theorem A1 (p:Pr)(f:Fl)(j:Bool):((p.kd f).sd j).str=(p.sd j).str/\((p.kd f).sd j).closed=(p.sd j).closed:=by
 have e:(p.kd f).sd j=(p.v6 f.dst ((p.sd f.dst).c.receive p.now f.s).1).sd j:=BU _ _ _ _;rw[e]
 cases f.dst <;> cases j <;> exact⟨Z,Z⟩
theorem AP (i:Bool):∀(l:List Sg) (p:Pr) (j:Bool),D9 P j p.log<=D9 P j (p.put i l).log:=by
 intro l
 induction l with
 | nil=>intro p j;exact Lb _
 | cons s l a =>
  intro p j;refine LE ?_ (a (p.z7 i s) j);show D9 P j p.log<=D9 P j (p.log++[p.fl i s]);rw[kD];split <;> omega
theorem Dg (p:Pr)(f:Fl)(j:Bool):Gw (kx P p j) (kx P (p.kd f) j):=by
 obtain⟨a,b⟩:=A1 p f j;refine⟨.inl ⟨a,fun h=>b.trans h⟩,Z,Z,Z,?_⟩;have h1:=AP (P:=P) f.dst ((p.sd f.dst).c.receive p.now f.s).2 (p.v6 f.dst ((p.sd f.dst).c.receive p.now f.s).1) j;rw[show(p.v6 f.dst ((p.sd f.dst).c.receive p.now f.s).1).log=p.log from(ya p _ _).2.2.2.2]at h1;exact h1
theorem PV.fold (b:P.Ok):∀(l:List Fl) {p:Pr} {q r:Int},PV P p->Fit p q r->(∀f∈l,f.s.Ok/\GS (kx P p (!f.dst)) f.s/\iM (kx P p f.dst) f.s)->PV P (l.foldl Pr.kd p):=by
 intro l
 induction l with
 | nil=>intro p q r h _ _;exact h
 | cons f l e =>
  intro p q r h k a;obtain⟨h1,h2,g⟩:=a f M7;refine e (h.kd k b h1 (k1:=kx P p (!f.dst)) Z Z Z h2 (.refl _) g) (D5 k h1) (fun x i=> ?_);obtain⟨j,m,o⟩:=a x (Mj _ i);exact⟨j,m.gw (Dg p f _),o.gw (Dg p f _)⟩
theorem PV.kp (h:PV P p)(k:Fit p q r)(i:Bool):PV P (p.kp i):=by
 have hs:=k.sd i;obtain⟨e,f⟩:=h.s i;obtain⟨g,a,j⟩:=h.r i;obtain⟨b,f2⟩:=tg (p.sd i).c p.now;refine h.act i (d:={ p.sd i with c:=((p.sd i).c.tick p.now).1 }) Z (.inl ⟨Z,id⟩) (E3 k _) (e.tick hs.c k.Cq f) (g.fx b) ?_ j;show Ir _ ((p.sd i).c.tick p.now).1
 rcases f2 with f2 | f2
 ·unfold Ir at a|-;rw[f2,b.A2];exact a
 exact .inl f2
theorem PV.tick (h:PV P p)(k:Fit p q r)(m:p.now+1<=1000000)(o:P.Ok):PV P p.tick:=by
 have h0:PV P { p with now:=p.now+1 }:=⟨h.s,h.r,h.w,h.g⟩;have j:Fit { p with now:=p.now+1 } q r:=⟨k.a,k.b,⟨by have:=k.now;dsimp only;omega,m⟩,k.wire,k.due,k.log,k.q,k.r⟩
 have i:∀{x:Pr} {q r:Int},PV P x->Fit x q r->PV P x.deliver:=by
  intro x q r h k;exact PV.fold o x.due (p:={ x with wire:=x.rest }) ⟨h.s,h.r,fun f e=>h.w f (E9 e),h.g⟩ (EB k) (fun f e=>⟨k.wire f (DW e),h.w f (DW e)⟩)
 have h1:=i h0 j;have l:=DS j;exact(h1.kp l false).kp (C8 l false) true
theorem PV.send (h:PV P p)(k:Fit p q r)(i:Bool)(n:Int):PV P (p.send i n):=by
 have hs:=k.sd i;obtain⟨l,m⟩:=h.s i;obtain⟨t,g,u⟩:=h.r i;unfold Pr.send;dsimp only;split
 ·exact h
 rename_i w;split
 ·exact h
 rename_i x;have B:=Dr hs n;have C:=hs.len;have y:=hs.sl;have E:=hs.last;have h0:=hs.s0;have z:(p.sd i).c.refusal=0:=by simpa using x
 have b:(p.sd i).closed=false:=by simpa using (fun h=>w (.inl h))
 have A:0<=(p.sd i).c.pd (bytes (p.sd i) n)/\(p.sd i).c.pd (bytes (p.sd i) n)<=(bytes (p.sd i) n).length:=Kf
 have e:(p.sd i).str++(bytes (p.sd i) n).take ((p.sd i).c.pd (bytes (p.sd i) n)).toNat=(p.sd i).all.take ((p.sd i).sent+(p.sd i).c.pd (bytes (p.sd i) n)).toNat:=by
  generalize (p.sd i).c.pd (bytes (p.sd i) n)=kk at A|-
  have a:kk.toNat+(p.sd i).sent.toNat<=(min ((p.sd i).sent+n) (p.sd i).all.length).toNat\/kk=0:=by
   have:(bytes (p.sd i) n).length=(min ((p.sd i).sent+n) (p.sd i).all.length).toNat-(p.sd i).sent.toNat:=by
    unfold bytes;rw[Lt,Lg];omega
   omega
  rcases a with a | rfl
  ·rw[show((p.sd i).sent+kk).toNat=(p.sd i).sent.toNat+kk.toNat by omega,List.take_add]
   congr 1
   unfold bytes;rw[List.drop_take,Nw]
   congr 1
   omega
  simp[Sd.str]
 have o:=l.send hs.c k.Cq m (bytes (p.sd i) n) O z (by show((p.sd i).str++_).length<=1000;rw[e,Lg];omega);have f:Sd.str { p.sd i with c:=((p.sd i).c.send p.now (bytes (p.sd i) n)).1,sent:=(p.sd i).sent+(p.sd i).c.pd (bytes (p.sd i) n) }=(p.sd i).all.take ((p.sd i).sent+(p.sd i).c.pd (bytes (p.sd i) n)).toNat:=Z;obtain⟨j,f2⟩:=AO (p.sd i).c p.now (bytes (p.sd i) n);refine h.act i (d:={ p.sd i with c:=((p.sd i).c.send p.now (bytes (p.sd i) n)).1,sent:=(p.sd i).sent+(p.sd i).c.pd (bytes (p.sd i) n) }) (k:={ kx P p i with S:=(p.sd i).str++(bytes (p.sd i) n).take ((p.sd i).c.pd (bytes (p.sd i) n)).toNat }) (by rw[f,e];rfl) (.inr ⟨b,_,(f.trans e.symm)⟩) (by rw[f,Lg];omega) o (t.fx j) ?_ u;show Ir _ ((p.sd i).c.send p.now (bytes (p.sd i) n)).1;unfold Ir at g|-;rw[f2,j.A2];exact g
theorem PV.recv (h:PV P p)(k:Fit p q r)(i:Bool){n:Int}(l:0<=n):PV P (p.recv i n):=by
 have hs:=k.sd i;obtain⟨m,t⟩:=h.s i;obtain⟨u,g,j⟩:=h.r i;obtain⟨f,w,x,y⟩:=u.recv p.now l
 have b:Ir (P.ki (!i)) ((p.sd i).c.recv p.now n).1:=by
  unfold Ir at g|-;rw[x,w];exact g
 have o:=m.recv hs.c k.Cq t n;unfold Pr.recv;dsimp only;split
 ·rename_i he
  have hz:(p.sd i).c.bx.ox n=[]:=by
   unfold Cn.oB at he;rw[L7 O]at he;split at he
   ·rename_i z;exact z.1
   exact absurd Z he
  rw[hz,LP]at f;have e:p.v6 i ((p.sd i).c.recv p.now n).1=(p.kl i { p.sd i with c:=((p.sd i).c.recv p.now n).1 }).put i []:=Z;rw[e];exact h.act i Z (.inl ⟨Z,id⟩) (E3 k _) ⟨o.1,Cn.Ok.all_nil,o.2.2⟩ f b j
 refine h.act i (d:={ p.sd i with c:=((p.sd i).c.recv p.now n).1,got:=(p.sd i).got++(p.sd i).c.bx.ox n,fin:=(p.sd i).fin||(p.sd i).c.v8 n }) Z (.inl ⟨Z,id⟩) (E3 k _) o f b (fun a=> ?_);dsimp only at a|-;rw[Bool.or_eq_true]at a
 rcases a with a | a
 ·have:=j a;have A:=f.pi.EV;rw[Lc]at A|-;exact⟨this.1,O⟩
 exact y a
theorem PV.shut (h:PV P p)(k:Fit p q r)(i:Bool):PV P (p.shut i):=by
 have hs:=k.sd i;obtain⟨e,f⟩:=h.s i;obtain⟨g,a,j⟩:=h.r i;unfold Pr.shut;dsimp only;split
 ·exact h
 split
 ·exact h
 rename_i he;have he:(p.sd i).c.z8=0:=by simpa using he
 obtain⟨b,f2⟩:=yZ (p.sd i).c p.now he;have o:=e.close hs.c k.Cq f he;refine h.act i (d:={ p.sd i with c:=((p.sd i).c.close p.now).1,closed:=true }) Z (.inl ⟨Z,fun _=>rfl⟩) (E3 k _) o (g.fx b) ?_ j;show Ir _ ((p.sd i).c.close p.now).1
 rcases a with a | a | a
 ·unfold Cn.z8 at he;rw[L9 (.inl a)]at he
  cases he
 ·exact .inl (f2 a)
 exact .inr (.inr (b.A2.trans a))
theorem PV.D3 (h:PV P p)(k:Fit p q r)(i:Bool):D3 (p.sd i) (p.sd (!i))=false:=by
 obtain⟨f,s,g⟩:=h.r i;have a:=k.sd (!i);have j:=a.EF;have t:=f.pi.EV;have b:=f.pi.got;have h0:=a.s0;have l:=a.sl;unfold Pr.D3;rw[MR,MR,Lu,Lu];refine⟨O,fun m=>m ?_,?_⟩
 ·have e:(p.sd (!i)).str.take (p.sd i).got.length=(p.sd (!i)).all.take (p.sd i).got.length:=by
   unfold Sd.str;rw[Nw]
   congr 1
   omega
  rw[show min (p.sd i).got.length (p.sd (!i)).all.length=(p.sd i).got.length by omega,<-e];exact b
 cases hf:(p.sd i).fin with
 | false=>rfl
 | true =>
  obtain⟨o,u⟩:=g hf;rw[o]
  simp
  omega
theorem PV.ET (h:PV P p)(k:Fit p q r):p.ET=0:=by
 have h1:=h.D3 k false;have h2:=h.D3 k true;unfold Pr.ET;have e:Pr.D3 p.a p.b=false:=h1;have f:Pr.D3 p.b p.a=false:=h2;rw[e,f];rfl
end Pr
end
section
namespace Pr
structure Al (P:BX)(p:Pr)(n:Int):Prop where
 run:CG p n
 pv:PV P p
 ml:p.Ml
variable {P : BX} {p : Pr} {n : Int}
theorem kt (p:Pr)(i:Bool)(d:Sd)(l:List Sg):((p.kl i d).put i l).now=p.now:=((cD i l _).2.2.1).trans (by cases i <;> rfl)
theorem yc (p:Pr)(i:Bool)(k:Int):(p.send i k).now=p.now:=by
 unfold send;dsimp only;split
 ·rfl
 split
 ·rfl
 exact kt _ _ _ _
theorem yd (p:Pr)(i:Bool)(k:Int):(p.recv i k).now=p.now:=by
 unfold recv;dsimp only;split
 ·cases i <;> rfl
 exact kt _ _ _ _
theorem ye (p:Pr)(i:Bool):(p.shut i).now=p.now:=by
 unfold shut;dsimp only;split
 ·rfl
 split
 ·rfl
 exact kt _ _ _ _
theorem AQ (h:p.Ml)(i:Bool)(k:Int):(p.send i k).Ml:=by
 unfold send;dsimp only;split
 ·exact h
 split
 ·exact h
 exact Ml.put (h.kl _ _) _ _
theorem AR (h:p.Ml)(i:Bool)(k:Int):(p.recv i k).Ml:=by
 unfold recv;dsimp only;split
 ·exact h.kl _ _
 exact Ml.put (h.kl _ _) _ _
theorem AS (h:p.Ml)(i:Bool):(p.shut i).Ml:=by
 unfold shut;dsimp only;split
 ·exact h
 split
 ·exact h
 exact Ml.put (h.kl _ _) _ _
namespace Al
theorem tick (h:Al P p n)(h0:0<=n)(a:n+1<=5000)(b:P.Ok):Al P p.tick (n+1):=⟨h.run.tick h0 a,h.pv.tick h.run.1 (by have:=h.run.2;omega) b,h.ml.tick⟩
theorem send (h:Al P p n)(i:Bool)(k:Int):Al P (p.send i k) (n+1) :=
 ⟨⟨(DT h.run.1 i k).mono O O,by rw[yc];have:=h.run.2;omega⟩,h.pv.send h.run.1 i k,AQ h.ml i k⟩
theorem recv (h:Al P p n)(i:Bool){k:Int}(a:0<=k):Al P (p.recv i k) (n+1) :=
 ⟨⟨(DK h.run.1 i k).mono O O,by rw[yd];have:=h.run.2;omega⟩,h.pv.recv h.run.1 i a,AR h.ml i k⟩
theorem shut (h:Al P p n)(i:Bool):Al P (p.shut i) (n+1) :=
 ⟨⟨(DU h.run.1 i).mono O O,by rw[ye];have:=h.run.2;omega⟩,h.pv.shut h.run.1 i,AS h.ml i⟩
theorem mono (h:Al P p n){m:Int}(a:n<=m):Al P p m:=⟨⟨h.run.1.mono O O,by have:=h.run.2;omega⟩,h.pv,h.ml⟩
theorem DE (_h:Al P p n)(a:n<=5000):3000*(n+1)<=90000000/\15003000*(n+1)<=90000000000:=by omega
theorem v (h:Al P p n):Pr.D3 p.a p.b=false/\Pr.D3 p.b p.a=false/\p.ET=0:=⟨h.pv.D3 h.run.1 false,h.pv.D3 h.run.1 true,h.pv.ET h.run.1⟩
theorem got (h:Al P p n)(i:Bool):(p.sd i).got.length<=1000:=La (h.pv.r i).1.pi.EV (E3 h.run.1 _)
theorem Ep (a:P.Ok):∀(k:Nat) {p:Pr} {n:Int},Al P p n->0<=n->n+k<=5000->Pr.Ep k p=(Pr.ticks k p,true)/\Al P (Pr.ticks k p) (n+k):=by
 intro k
 induction k with
 | zero =>
  intro p n h _ _;refine⟨?_,by rw[show n+((0:Nat):Int)=n by omega];exact h⟩;show(p,decide (p.ET=0))=(p,true);rw[h.v.2.2];rfl
 | succ k b =>
  intro p n h h0 g;have h1:=h.tick h0 O a;obtain⟨e,f⟩:=b h1 O O;refine⟨?_,by rw[show n+((k+1:Nat):Int)=n+1+(k:Nat) by omega];exact f⟩;show(if 0<p.tick.ET then(p.tick,false)else Pr.Ep k p.tick)=_;rw[h1.v.2.2,L7 D];exact e
end Al
end Pr
end
theorem th (x:Rw):(ee x).okB=true/\(eF x).okB=true:=by
 have h1:=ah x.go 100 D;have h2:=ah x.xb 400 D;have a:=ah x.x4 400 D;have b:=ah x.keep 400 D;unfold Cf.okB ee eF ck;dsimp only;refine⟨Le ?_,Le ?_⟩ <;> omega
theorem ti:aI 0:=by unfold aI;decide
theorem yf (x:Rw):(fz 0 (ee x)).1.Ok:=((gE ti (th x).1).step ti J4 1).Cc
theorem vf (x:Rw):(tM 0 (ee x)).Ok:=(gE ti (th x).1).step ti J4 1
theorem tu (x:Rw):(gA x).Ok:=(vf x).E8
theorem yg (x:Rw):(gA x).syn=true:=rfl
theorem kE (x:Rw):(fL 0 (eF x) (gA x)).Ok:=((gE ti (th x).2).meet (tu x) (yg x)).step ti J4 2
theorem AT (x:Rw):(cZ 0 (eF x) (gA x)).1.Ok:=(kE x).Cc
def cG (x:Rw):Pr.BX:=⟨fun i=>match i with | false=>ck x.DL | true=>ck x.Eb,28+aO x.go 100,fun i=>match i with | false=>40+aO x.xb 400 | true=>40+aO x.x4 400⟩
theorem eI (x:Rw):(cG x).Ok:=by
 intro i
 cases i <;> (unfold cG ck;dsimp only;omega)
def i5 (x:Rw)(kq:List Int)(n m:Nat):Pr:={ a:=CE (fz 0 (ee x)).1 (dV 0 n),b:=CE (cZ 0 (eF x) (gA x)).1 (dV 1 m),wire:=[],now:=0,kq:=kq,many:=0,log:=[] }
theorem yh (x:Rw)(kq:List Int)(n m:Nat):eK x kq n m=(i5 x kq n m).put true [(fL 0 (eF x) (gA x)).x7]:=rfl
theorem ll (s:Int)(n:Nat):(dV s n).length=n:=by unfold dV;rw[LM,List.length_range]
theorem CP (x:Rw)(kq:List Int)(n m:Nat)(j:kq.length<=1000)(g:n<=1000)(i:m<=1000):Pr.Fit (i5 x kq n m) 2000 100:=by
 refine⟨⟨yf x,?_,Lb 0,?_,Z,?_⟩,⟨AT x,?_,Lb 0,?_,Z,?_⟩,⟨Lb 0,by show(0:Int)<=1000000;decide⟩,(fun f h=>nomatch h),(fun f h=>nomatch h),(fun f h=>nomatch h),?_,?_⟩
 ·show(dV 0 n).length<=1000;rw[ll];exact g
 ·show(0:Int)<=(dV 0 n).length;omega
 ·show(1:Int)<=1+(0:Nat)+1;decide
 ·show(dV 1 m).length<=1000;rw[ll];exact i
 ·show(0:Int)<=(dV 1 m).length;omega
 ·show(1:Int)<=1+(0:Nat)+1;decide
 ·have h1:(i5 x kq n m).a.c.Cu<=10:=by have e:Cn.Cu (fz 0 (ee x)).1=3:=Z;show Cn.Cu (fz 0 (ee x)).1<=10;rw[e];decide
  have h2:(i5 x kq n m).b.c.Cu<=10:=KX
  unfold Pr.Q Pr.rem;show((0:Nat):Int)+max 0 ((kq.length:Int)-(0:Nat))+_+_<=2000;omega
 have h1:(i5 x kq n m).a.c.Cu<=10:=by have e:Cn.Cu (fz 0 (ee x)).1=3:=Z;show Cn.Cu (fz 0 (ee x)).1<=10;rw[e];decide
 have h2:(i5 x kq n m).b.c.Cu<=10:=KX
 unfold Pr.R;show((0:Nat):Int)+_+_<=100;omega
theorem CQ (x:Rw):SI ⟨[],false,ck x.DL,28+aO x.go 100,40+aO x.xb 400,40+aO x.x4 400⟩ (fz 0 (ee x)).1:=by
 have a:=ah x.x4 400 D;exact⟨Lb 1,Z,Z,by show(1:Int)<=1+(0:Nat)+0;decide,(fun h=>nomatch h),by show(1:Int)<=max 0 1;decide,Lb 1,Z,LZ _,by show(0:Int)<=1+(40+aO x.x4 400);omega,(fun h=>absurd h (by show ¬(1:Int)<=0;decide)),by show min (1:Int) (1+(0:Nat))<=0+1;decide,Lb _,Z⟩
theorem Ar (x:Rw):SI ⟨[],false,ck x.Eb,28+aO x.go 100,40+aO x.x4 400,40+aO x.xb 400⟩ (fL 0 (eF x) (gA x)):=by
 have a:=ah x.xb 400 D;have h2:=ah x.go 100 D;exact⟨Lb 1,Z,Z,by show(1:Int)<=1+(0:Nat)+0;decide,(fun h=>nomatch h),by show(1:Int)<=max 0 1;decide,Lb 1,Z,LZ _,by show max (0:Int) (1+(40+aO x.xb 400))<=1+(40+aO x.xb 400);omega,(fun h=>absurd h (by show ¬(1:Int)<=0;decide)),by show min (1:Int) (1+(0:Nat))<=max (0:Int) (1+(40+aO x.xb 400))+1;omega,by show min (28+aO x.go 100) (if 28+aO x.go 100=0 then 28 else 28+aO x.go 100)<=28+aO x.go 100;omega,Z⟩
theorem C1 (n:Nat)(h1:1<=n)(h2:n<=8192){c:Cn}(a:c.bx=nM n)(he:c.ended=false):RB [] false c [] :=
 ⟨by rw[a];exact PI.start Z D h1 h2,fun h=>by rw[he]at h;cases h⟩
theorem C5 (x:Rw)(kq:List Int)(n m:Nat):Pr.PV (cG x) (i5 x kq n m):=by
 have h2:=ah x.xb 400 D;have a:=ah x.x4 400 D;refine⟨fun i=> ?_,fun i=> ?_,(fun f h=>nomatch h),fun L f M h=> ?_⟩
 ·cases i
  ·exact⟨CQ x,fun h=>absurd h (by show ¬(3:Int)<=1;decide)⟩
  exact⟨(Ar x).Cc,fun h=>absurd h (by show ¬(3:Int)<=2;decide)⟩
 ·cases i
  ·refine⟨C1 (40+aO x.xb 400).toNat O O Z Z,.inr (.inl Z),(fun h=>nomatch h)⟩
  refine⟨C1 (40+aO x.x4 400).toNat O O Z Z,.inr (.inr ?_),(fun h=>nomatch h)⟩;show aw (ck x.DL) 0=ck x.DL;unfold aw ck;omega
 have:=congrArg List.length h;rw[Lc]at this
 simp[i5]at this
theorem kF (x:Rw)(kq:List Int)(n m:Nat)(a:kq.length<=1000)(b:n<=1000)(e:m<=1000):Pr.Al (cG x) (eK x kq n m) 0:=by
 have hs:=(kE x).E8;rw[yh];refine⟨⟨(Pr.FB true [(fL 0 (eF x) (gA x)).x7] (CP x kq n m a b e) (Cn.Ok.Dk hs)).mono (by show(2000:Int)+1<=3000*(0+1);decide) (by show(100:Int)+1<=15003000*(0+1);decide),?_⟩,?_,Pr.Ml.put (show(i5 x kq n m).Ml from Z) _ _⟩
 ·rw[(cD _ _ _).2.2.1];exact Lb 0
 exact Pr.PV.put true _ (C5 x kq n m) (Cn.Ok.Dk ((Ar x).syn (kE x)))
section
set_option maxHeartbeats 8000000
set_option maxRecDepth 100000
open Go.RowKit Go.Shelf
theorem oJ {b:Bx}(ok:b.Ok)(n:Int):(b.ox n).length<=8192:=by
 have h1:=ok.most;have h2:=ok.one;have a:=ok.Cv;have e:=ok.Du;unfold Bx.ox;split
 ·exact LZ _
 rw[kT _ _ _ h2 O];omega
theorem eD (N:Nat) (t:Ft) (p:Pr) (i:Bool) (n:Int) (w:World) (q r:Int) (h:C9 N t p w) (x:Pr.Fit p q r) (hq:q<=90000000) (hr:r<=90000000000) (hm:p.Ml) (hn:0<=n/\n<=1000000) (hg:(p.sd i).got.length<=1000000) :
  Calls Tryz.prog 20 #[t.B,(bI i),n] w (kh N t w (p.recv i n)):=by
 cases i
 ·have K:w.cell? t.B=some (t.fa.C:Y):=h.cell 0 _ Z;have y1:w.cell? ⟨t.B,1,none⟩=some (.string ⟨p.a.all.toArray⟩):=h.cell 1 _ Z;have y2:w.cell? ⟨t.B,2,none⟩=some (p.a.sent:Y):=h.cell 2 _ Z;have y3:w.cell? ⟨t.B,3,none⟩=some (.string ⟨p.a.got.toArray⟩):=h.cell 3 _ Z;have y4:w.cell? ⟨t.B,4,none⟩=some (p.a.fin:Y):=h.cell 4 _ Z;have y5:w.cell? ⟨t.B,5,none⟩=some (p.a.closed:Y):=h.cell 5 _ Z;have aa:=H x.Cq;have ax:=H (Pr.DK x false n);have b0:=H x.a.c;have b3:=H hm;have b4:=H x.Ei;have ab:=H x.now;have ac:=H h;have bb:=H (show p.a.got.length<=1000000 from hg);obtain⟨a1,bc⟩:=hn;show Calls _ _ #[t.B,(0:Int),n] _ _;clear h x hm hg;obtain⟨R,L⟩:∃R,R=p.recv false n:=⟨_,Z⟩;rw[<-L];have HR:=H L;clear L;have bd:=H (show p.a.c.FE n=(p.a.c.bx.ox n)from L7 O)
  go_enter Tryz.func20,Tryz.ntmps20
  go_wp2_with fail;clear K y1 y2 y3 y4 y5;change Code.wp _ _ _ _ (w.alloc (.cells (pU t.fa p.a).toArray 34));have g:=H (Ps.new (t7.start ac.o) t.fa p.a);generalize hF:w.heap.size=F at g|-;generalize w.alloc (.cells (pU t.fa p.a).toArray 34)=w1 at g|-;have K:=g.row.cell 0 _ Z;go_wp2_with fail;clear K;refine az (fun W:World=>W.cell? F=some (t.fa.C:Y)/\W.cell? ⟨t.B,13,none⟩=some (p.now:Y)) (⟨g.row.cell 0 _ Z,g.st.cell 13 p.now Z⟩) fun m=>?_;replace g:=H (g.qn (L5 _ _).drew);generalize w1.drew=w3 at g m|-;refine aA 0 1 2 3 ?_;refine aM 4 5 ?_;refine aQ 6 ?_;refine aY 7 fun u j=> ?_;go_simp;refine(oI t.fa p.a.c p.now n _ g.st.pa.a b0.o aa.o).mono ?_;rintro e M⟨v,rfl,hl,hc,y⟩;have k4:=g.st.pa.FQ false t.fa.G _ hc y (.inl Z);replace g:=H (g.step k4);have b7:=H hl;clear hl hc y k4;dsimp only[mt];rw[bd.o];go_simp;refine j.out _ _ (⟨g.row.cell 0 _ Z,g.st.cell 13 p.now Z⟩) ?_;clear j u m;refine fun m=>aW ?_;refine aA 8 9 10 11 ?_;refine aA 12 13 14 15 ?_;refine aQ 16 ?_;refine ay ?_ _;clear m;by_cases he:p.a.c.oB n=0
  ·have HE:=H (show p.a.c.oB n=0 from he);have be:=H (show p.a.c.FG n=p.a.c.v8 n from(L7 O).trans (L9 HE.o));have ag:=H (show p.recv false n=(p.kl false { p.a with c:=(p.a.c.recv p.now n).1,got:=p.a.got++(p.a.c.bx.ox n),fin:=p.a.fin||p.a.c.v8 n }).put false (p.a.c.recv p.now n).2 from by unfold Pr.recv;dsimp only;rw[L7 (show ¬(p.sd false).c.oB n≠0 from fun hh=>hh HE.o)];rfl);go_wp2_with fail;rw[be.o];have bk:=H (oJ b0.bx n);have z:∀W:World,(Op.stringOp .add (⟨p.a.got.toArray⟩:ByteArray) (⟨(p.a.c.bx.ox n).toArray⟩:ByteArray)).run Tryz.prog W= .ok (.string ⟨(p.a.got++(p.a.c.bx.ox n)).toArray⟩) W:=fun W=>P1 W _ _ KY;refine az (fun W:World=>W.cell? ⟨F,3,none⟩=some (.string ⟨p.a.got.toArray⟩)) (g.row.cell 3 _ Z) fun m=>?_;replace g:=H (g.qn (L5 _ _).drew);have T:=H (b7.below (L5 M.heap.size M).drew);generalize M.drew=w5 at g m T|-;have c3:w5.cell? ⟨t.B,3,none⟩=some (.string ⟨p.a.got.toArray⟩):=g.st.cell 3 _ Z;have f3:=g.st.free 3;have k:=H (g.set 3 (.string ⟨(p.a.got++(p.a.c.bx.ox n)).toArray⟩) (p.kl false { p.a with c:=(p.a.c.recv p.now n).1,got:=p.a.got++(p.a.c.bx.ox n) }) Z Z Z Z Z Z);refine aA 0 1 2 3 ?_;refine aA 4 5 6 7 ?_;refine aM 8 9 ?_;refine aY 10 fun u j=> ?_;go_simp;refine j.out _ _ (k.row.cell 3 _ Z) ?_;clear j u m;refine fun m=>aW ?_;refine ay ?_ _;clear m c3 f3 z;generalize al:w5.setCell ⟨t.B,3,none⟩ (.string ⟨(p.a.got++(p.a.c.bx.ox n)).toArray⟩)=w6 at k|-;have a5:=H (show aL w6 _ v _ from by rw[<-al];exact T.EK g.st.pa (by rw[<-g.st.eB];exact(g.st.pa.set 3 (.string ⟨(p.a.got++(p.a.c.bx.ox n)).toArray⟩) (p.kl false { p.a with c:=(p.a.c.recv p.now n).1,got:=p.a.got++(p.a.c.bx.ox n) }) Z Z Z Z Z Z).fr));clear al g T;go_wp2_with fail;by_cases f:p.a.fin=true
   focus
    refine az (fun W:World=>W.cell? ⟨F,4,none⟩=some (true:Y)) (k.row.cell 4 _ Pv) fun m=>?_;replace k:=H (k.qn (L5 _ _).drew);have A:=H (a5.below (L5 w6.heap.size w6).drew);generalize w6.drew=w7 at k A m|-;have U:w7.cell? ⟨t.B,4,none⟩=some (true:Y):=(k.st.cell 4 p.a.fin Z).trans (by rw[f]);have V:=k.st.free 4;have s:=H (k.set 4 true (p.kl false { p.a with c:=(p.a.c.recv p.now n).1,got:=p.a.got++(p.a.c.bx.ox n),fin:=true }) Z Z Z Z Z Z);refine aA 0 1 2 3 ?_;refine aQ 4 ?_;refine aU 5 ?_;refine aA 6 7 8 9 ?_;refine aQ 10 ?_;refine aY 11 fun u j=> ?_;go_simp;refine j.out _ _ (s.row.cell 4 _ Pv) ?_;clear j u m;refine fun m=>aW ?_;refine ay ?_ _;clear m U V;generalize E:w7.setCell ⟨t.B,4,none⟩ true=w8 at s|-;have I:=H (show p.recv false n=(p.kl false { p.a with c:=(p.a.c.recv p.now n).1,got:=p.a.got++(p.a.c.bx.ox n),fin:=true }).put false (p.a.c.recv p.now n).2 from by rw[ag.o,f];rfl);have an:=H (show aL w8 _ v _ from by rw[<-E];exact A.EK k.st.pa (by rw[<-k.st.eB];exact(k.st.pa.set 4 true (p.kl false { p.a with c:=(p.a.c.recv p.now n).1,got:=p.a.got++(p.a.c.bx.ox n),fin:=true }) Z Z Z Z Z Z).fr));clear E f;have J:=H (eH (X:=p.kl false { p.a with c:=(p.a.c.recv p.now n).1,got:=p.a.got++(p.a.c.bx.ox n),fin:=true }) (i:=false) (l:=(p.a.c.recv p.now n).2) Pw Pe (b3.kl false _) O)
   rotate_left 1
   focus
    replace f:p.a.fin=false:=JE
    refine az (fun W:World=>W.cell? ⟨F,4,none⟩=some (false:Y)) (k.row.cell 4 _ Pv) fun m=>?_;replace k:=H (k.qn (L5 _ _).drew);have A:=H (a5.below (L5 w6.heap.size w6).drew);generalize w6.drew=w7 at k A m|-;have U:w7.cell? ⟨t.B,4,none⟩=some (false:Y):=(k.st.cell 4 p.a.fin Z).trans (by rw[f]);have V:=k.st.free 4;have s:=H (k.set 4 (p.a.c.v8 n) (p.kl false { p.a with c:=(p.a.c.recv p.now n).1,got:=p.a.got++(p.a.c.bx.ox n),fin:=(p.a.c.v8 n) }) Z Z Z Z Z Z);refine aA 0 1 2 3 ?_;refine aA 4 5 6 7 ?_;refine aM 8 9 ?_;refine aQ 10 ?_;refine aY 11 fun u j=> ?_;go_simp;refine j.out _ _ (s.row.cell 4 _ Pv) ?_;clear j u m;refine fun m=>aW ?_;refine ay ?_ _;clear m U V;generalize E:w7.setCell ⟨t.B,4,none⟩ (p.a.c.v8 n)=w8 at s|-;have I:=H (show p.recv false n=(p.kl false { p.a with c:=(p.a.c.recv p.now n).1,got:=p.a.got++(p.a.c.bx.ox n),fin:=(p.a.c.v8 n) }).put false (p.a.c.recv p.now n).2 from by rw[ag.o,f];rfl);have an:=H (show aL w8 _ v _ from by rw[<-E];exact A.EK k.st.pa (by rw[<-k.st.eB];exact(k.st.pa.set 4 (p.a.c.v8 n) (p.kl false { p.a with c:=(p.a.c.recv p.now n).1,got:=p.a.got++(p.a.c.bx.ox n),fin:=(p.a.c.v8 n) }) Z Z Z Z Z Z).fr));clear E f;have J:=H (eH (X:=p.kl false { p.a with c:=(p.a.c.recv p.now n).1,got:=p.a.got++(p.a.c.bx.ox n),fin:=(p.a.c.v8 n) }) (i:=false) (l:=(p.a.c.recv p.now n).2) Pw Pe (b3.kl false _) O)
   all_goals
    have a0:=cO N _ _ false _ v _ _ s.st.pa an.o J.1 J.2.1 J.2.2 ab.o;rw[s.st.eB,show bI false=0 from Z]at a0;go_wp2_with fail;refine a0.mono ?_;rintro e w9⟨rfl,t9,k9⟩;go_wp2_with fail
    go_end0
    exact⟨Z,t9,by rw[HR.o,I.o];exact s.st.trans k9⟩
  have b5:=H (show ¬p.a.c.oB n=0 from he);go_wp2_with fail
  go_end0
  have e2:p.recv false n=p.v6 false (p.a.c.recv p.now n).1:=by unfold Pr.recv;dsimp only;exact L9 (show(p.sd false).c.oB n≠0 from b5.o)
  refine⟨Z,?_⟩;rw[HR.o,e2];exact⟨_,g.st⟩
 have K:w.cell? ⟨t.B,6,none⟩=some (t.fb.C:Y):=h.cell 6 _ Z;have y1:w.cell? ⟨t.B,7,none⟩=some (.string ⟨p.b.all.toArray⟩):=h.cell 7 _ Z;have y2:w.cell? ⟨t.B,8,none⟩=some (p.b.sent:Y):=h.cell 8 _ Z;have y3:w.cell? ⟨t.B,9,none⟩=some (.string ⟨p.b.got.toArray⟩):=h.cell 9 _ Z;have y4:w.cell? ⟨t.B,10,none⟩=some (p.b.fin:Y):=h.cell 10 _ Z;have y5:w.cell? ⟨t.B,11,none⟩=some (p.b.closed:Y):=h.cell 11 _ Z;have aa:=H x.Cq;have ax:=H (Pr.DK x true n);have b0:=H x.b.c;have b3:=H hm;have b4:=H x.Ei;have ab:=H x.now;have ac:=H h;have bb:=H (show p.b.got.length<=1000000 from hg);obtain⟨a1,bc⟩:=hn;show Calls _ _ #[t.B,(1:Int),n] _ _;clear h x hm hg;obtain⟨R,L⟩:∃R,R=p.recv true n:=⟨_,Z⟩;rw[<-L];have HR:=H L;clear L;have bd:=H (show p.b.c.FE n=(p.b.c.bx.ox n)from L7 O)
 go_enter Tryz.func20,Tryz.ntmps20
 go_wp2_with fail;clear K y1 y2 y3 y4 y5;change Code.wp _ _ _ _ (w.alloc (.cells (pU t.fb p.b).toArray 34));have g:=H (Ps.new (t7.start ac.o) t.fb p.b);generalize hF:w.heap.size=F at g|-;generalize w.alloc (.cells (pU t.fb p.b).toArray 34)=w1 at g|-;have K:=g.row.cell 0 _ Z;go_wp2_with fail;clear K;refine az (fun W:World=>W.cell? F=some (t.fb.C:Y)/\W.cell? ⟨t.B,13,none⟩=some (p.now:Y)) (⟨g.row.cell 0 _ Z,g.st.cell 13 p.now Z⟩) fun m=>?_;replace g:=H (g.qn (L5 _ _).drew);generalize w1.drew=w3 at g m|-;refine aA 0 1 2 3 ?_;refine aM 4 5 ?_;refine aQ 6 ?_;refine aY 7 fun u j=> ?_;go_simp;refine(oI t.fb p.b.c p.now n _ g.st.pa.b b0.o aa.o).mono ?_;rintro e M⟨v,rfl,hl,hc,y⟩;have k4:=g.st.pa.FQ true t.fb.G _ hc y (.inl Z);replace g:=H (g.step k4);have b7:=H hl;clear hl hc y k4;dsimp only[mt];rw[bd.o];go_simp;refine j.out _ _ (⟨g.row.cell 0 _ Z,g.st.cell 13 p.now Z⟩) ?_;clear j u m;refine fun m=>aW ?_;refine aA 8 9 10 11 ?_;refine aA 12 13 14 15 ?_;refine aQ 16 ?_;refine ay ?_ _;clear m;by_cases he:p.b.c.oB n=0
 ·have HE:=H (show p.b.c.oB n=0 from he);have be:=H (show p.b.c.FG n=p.b.c.v8 n from(L7 O).trans (L9 HE.o));have ag:=H (show p.recv true n=(p.kl true { p.b with c:=(p.b.c.recv p.now n).1,got:=p.b.got++(p.b.c.bx.ox n),fin:=p.b.fin||p.b.c.v8 n }).put true (p.b.c.recv p.now n).2 from by unfold Pr.recv;dsimp only;rw[L7 (show ¬(p.sd true).c.oB n≠0 from fun hh=>hh HE.o)];rfl);go_wp2_with fail;rw[be.o];have bk:=H (oJ b0.bx n);have z:∀W:World,(Op.stringOp .add (⟨p.b.got.toArray⟩:ByteArray) (⟨(p.b.c.bx.ox n).toArray⟩:ByteArray)).run Tryz.prog W= .ok (.string ⟨(p.b.got++(p.b.c.bx.ox n)).toArray⟩) W:=fun W=>P1 W _ _ KY;refine az (fun W:World=>W.cell? ⟨F,3,none⟩=some (.string ⟨p.b.got.toArray⟩)) (g.row.cell 3 _ Z) fun m=>?_;replace g:=H (g.qn (L5 _ _).drew);have T:=H (b7.below (L5 M.heap.size M).drew);generalize M.drew=w5 at g m T|-;have c3:w5.cell? ⟨t.B,9,none⟩=some (.string ⟨p.b.got.toArray⟩):=g.st.cell 9 _ Z;have f3:=g.st.free 9;have k:=H (g.set 9 (.string ⟨(p.b.got++(p.b.c.bx.ox n)).toArray⟩) (p.kl true { p.b with c:=(p.b.c.recv p.now n).1,got:=p.b.got++(p.b.c.bx.ox n) }) Z Z Z Z Z Z);refine aA 0 1 2 3 ?_;refine aA 4 5 6 7 ?_;refine aM 8 9 ?_;refine aY 10 fun u j=> ?_;go_simp;refine j.out _ _ (k.row.cell 3 _ Z) ?_;clear j u m;refine fun m=>aW ?_;refine ay ?_ _;clear m c3 f3 z;generalize al:w5.setCell ⟨t.B,9,none⟩ (.string ⟨(p.b.got++(p.b.c.bx.ox n)).toArray⟩)=w6 at k|-;have a5:=H (show aL w6 _ v _ from by rw[<-al];exact T.EK g.st.pa (by rw[<-g.st.eB];exact(g.st.pa.set 9 (.string ⟨(p.b.got++(p.b.c.bx.ox n)).toArray⟩) (p.kl true { p.b with c:=(p.b.c.recv p.now n).1,got:=p.b.got++(p.b.c.bx.ox n) }) Z Z Z Z Z Z).fr));clear al g T;go_wp2_with fail;by_cases f:p.b.fin=true
  focus
   refine az (fun W:World=>W.cell? ⟨F,4,none⟩=some (true:Y)) (k.row.cell 4 _ Px) fun m=>?_;replace k:=H (k.qn (L5 _ _).drew);have A:=H (a5.below (L5 w6.heap.size w6).drew);generalize w6.drew=w7 at k A m|-;have U:w7.cell? ⟨t.B,10,none⟩=some (true:Y):=(k.st.cell 10 p.b.fin Z).trans (by rw[f]);have V:=k.st.free 10;have s:=H (k.set 10 true (p.kl true { p.b with c:=(p.b.c.recv p.now n).1,got:=p.b.got++(p.b.c.bx.ox n),fin:=true }) Z Z Z Z Z Z);refine aA 0 1 2 3 ?_;refine aQ 4 ?_;refine aU 5 ?_;refine aA 6 7 8 9 ?_;refine aQ 10 ?_;refine aY 11 fun u j=> ?_;go_simp;refine j.out _ _ (s.row.cell 4 _ Px) ?_;clear j u m;refine fun m=>aW ?_;refine ay ?_ _;clear m U V;generalize E:w7.setCell ⟨t.B,10,none⟩ true=w8 at s|-;have I:=H (show p.recv true n=(p.kl true { p.b with c:=(p.b.c.recv p.now n).1,got:=p.b.got++(p.b.c.bx.ox n),fin:=true }).put true (p.b.c.recv p.now n).2 from by rw[ag.o,f];rfl);have an:=H (show aL w8 _ v _ from by rw[<-E];exact A.EK k.st.pa (by rw[<-k.st.eB];exact(k.st.pa.set 10 true (p.kl true { p.b with c:=(p.b.c.recv p.now n).1,got:=p.b.got++(p.b.c.bx.ox n),fin:=true }) Z Z Z Z Z Z).fr));clear E f;have J:=H (eH (X:=p.kl true { p.b with c:=(p.b.c.recv p.now n).1,got:=p.b.got++(p.b.c.bx.ox n),fin:=true }) (i:=true) (l:=(p.b.c.recv p.now n).2) Pw Pe (b3.kl true _) O)
  rotate_left 1
  focus
   replace f:p.b.fin=false:=JE
   refine az (fun W:World=>W.cell? ⟨F,4,none⟩=some (false:Y)) (k.row.cell 4 _ Px) fun m=>?_;replace k:=H (k.qn (L5 _ _).drew);have A:=H (a5.below (L5 w6.heap.size w6).drew);generalize w6.drew=w7 at k A m|-;have U:w7.cell? ⟨t.B,10,none⟩=some (false:Y):=(k.st.cell 10 p.b.fin Z).trans (by rw[f]);have V:=k.st.free 10;have s:=H (k.set 10 (p.b.c.v8 n) (p.kl true { p.b with c:=(p.b.c.recv p.now n).1,got:=p.b.got++(p.b.c.bx.ox n),fin:=(p.b.c.v8 n) }) Z Z Z Z Z Z);refine aA 0 1 2 3 ?_;refine aA 4 5 6 7 ?_;refine aM 8 9 ?_;refine aQ 10 ?_;refine aY 11 fun u j=> ?_;go_simp;refine j.out _ _ (s.row.cell 4 _ Px) ?_;clear j u m;refine fun m=>aW ?_;refine ay ?_ _;clear m U V;generalize E:w7.setCell ⟨t.B,10,none⟩ (p.b.c.v8 n)=w8 at s|-;have I:=H (show p.recv true n=(p.kl true { p.b with c:=(p.b.c.recv p.now n).1,got:=p.b.got++(p.b.c.bx.ox n),fin:=(p.b.c.v8 n) }).put true (p.b.c.recv p.now n).2 from by rw[ag.o,f];rfl);have an:=H (show aL w8 _ v _ from by rw[<-E];exact A.EK k.st.pa (by rw[<-k.st.eB];exact(k.st.pa.set 10 (p.b.c.v8 n) (p.kl true { p.b with c:=(p.b.c.recv p.now n).1,got:=p.b.got++(p.b.c.bx.ox n),fin:=(p.b.c.v8 n) }) Z Z Z Z Z Z).fr));clear E f;have J:=H (eH (X:=p.kl true { p.b with c:=(p.b.c.recv p.now n).1,got:=p.b.got++(p.b.c.bx.ox n),fin:=(p.b.c.v8 n) }) (i:=true) (l:=(p.b.c.recv p.now n).2) Pw Pe (b3.kl true _) O)
  all_goals
   have a0:=cO N _ _ true _ v _ _ s.st.pa an.o J.1 J.2.1 J.2.2 ab.o;rw[s.st.eB,show bI true=1 from Z]at a0;go_wp2_with fail;refine a0.mono ?_;rintro e w9⟨rfl,t9,k9⟩;go_wp2_with fail
   go_end0
   exact⟨Z,t9,by rw[HR.o,I.o];exact s.st.trans k9⟩
 have b5:=H (show ¬p.b.c.oB n=0 from he);go_wp2_with fail
 go_end0
 have e2:p.recv true n=p.v6 true (p.b.c.recv p.now n).1:=by unfold Pr.recv;dsimp only;exact L9 (show(p.sd true).c.oB n≠0 from b5.o)
 refine⟨Z,?_⟩;rw[HR.o,e2];exact⟨_,g.st⟩
end
section
set_option maxHeartbeats 8000000
set_option maxRecDepth 100000
open Go.RowKit Go.Shelf
theorem jV (N:Nat) (t:Ft) (p:Pr) (i:Bool) (n:Int) (w:World) (q r:Int) (h:C9 N t p w) (s:Pr.Fit p q r) (hq:q<=90000000) (hr:r<=90000000000) (A:p.Ml) (hn:0<=n/\n<=1000000) :
  Calls Tryz.prog 22 #[t.B,(bI i),n] w (kh N t w (p.send i n)):=by
 cases i
 ·have y0:w.cell? t.B=some (t.fa.C:Y):=h.cell 0 _ Z;have y1:w.cell? ⟨t.B,1,none⟩=some (.string ⟨p.a.all.toArray⟩):=h.cell 1 _ Z;have y2:w.cell? ⟨t.B,2,none⟩=some (p.a.sent:Y):=h.cell 2 _ Z;have y3:w.cell? ⟨t.B,3,none⟩=some (.string ⟨p.a.got.toArray⟩):=h.cell 3 _ Z;have y4:w.cell? ⟨t.B,4,none⟩=some (p.a.fin:Y):=h.cell 4 _ Z;have y5:w.cell? ⟨t.B,5,none⟩=some (p.a.closed:Y):=h.cell 5 _ Z;have aa:=H s.Cq;have ax:=H (Pr.DT s false n);have x:=H (s.sd false);have b0:=H s.a.c;have b3:=H A;have b4:=H s.Ei;have ab:=H s.now;have M:=H h;obtain⟨a1,bc⟩:=hn;have a2:0<=p.a.sent:=s.a.s0;have a3:p.a.sent<=p.a.all.length:=s.a.sl;have a4:p.a.all.length<=1000:=s.a.len;show Calls _ _ #[t.B,(0:Int),n] _ _;clear h s A;have hz:(⟨p.a.all.toArray⟩:ByteArray).size=p.a.all.length:=by simp[ByteArray.size]
  obtain⟨R,T⟩:∃R,R=p.send false n:=⟨_,Z⟩;rw[<-T];have L:=H T;clear T
  go_enter Tryz.func22,Tryz.ntmps22
  by_cases j:p.a.closed=true
  ·go_wp2_with fail;refine Lo (LY Z _ _ _) Z ⟨Z,t,?_⟩;rw[L.o];have e:p.send false n=p:=by unfold Pr.send;exact L9 ((.inl j))
   rw[e];exact M.alloc _
  replace j:p.a.closed=false:=by simpa using j
  by_cases E:(p.a.all.length:Int)<=p.a.sent
  ·go_wp2_with fail;refine Lo (LY Z _ _ _) Z ⟨Z,t,?_⟩;rw[L.o];have e:p.send false n=p:=by unfold Pr.send;exact L9 ((.inr E))
   rw[e];exact M.alloc _
  have b8:=H (show ¬((p.sd false).closed=true\/((p.sd false).all.length:Int)<=(p.sd false).sent)from by(rintro (I | I);exact absurd (j.symm.trans I) D;exact E I));go_wp2_with fail;clear y0 y1 y2 y3 y4 y5;change Code.wp _ _ _ _ (w.alloc (.cells (pU t.fa ({ p.a with closed:=false }:Sd)).toArray 34));have f:=H (Ps.new (t7.start M.o) t.fa ({ p.a with closed:=false }:Sd));generalize hF:w.heap.size=F at f|-;generalize w.alloc (.cells (pU t.fa ({ p.a with closed:=false }:Sd)).toArray 34)=w1 at f|-;have bv:=H j;clear j;obtain⟨m,A⟩:∃m:Int,m=min (p.a.sent+n) p.a.all.length:=⟨_,Z⟩;have a6:p.a.sent<=m:=O
  have bz:m<=p.a.all.length:=O
  have b1:0<=m:=O
  have bl:=H A;have bn:=H (show Pr.bytes (p.sd false) n=(p.a.all.take m.toNat).drop p.a.sent.toNat from by rw[A];rfl);clear A;refine az (fun W:World=>W.cell? F=some (t.fa.C:Y)/\W.cell? ⟨F,1,none⟩=some (.string ⟨p.a.all.toArray⟩)/\W.cell? ⟨F,2,none⟩=some (p.a.sent:Y)/\W.cell? ⟨t.B,13,none⟩=some (p.now:Y)) (⟨f.row.cell 0 _ Z,f.row.cell 1 _ Z,f.row.cell 2 _ Z,f.st.cell 13 p.now Z⟩) fun u=>?_;replace f:=H (f.qn (L5 _ _).drew);generalize w1.drew=w3 at f u|-;refine aA 0 1 2 3 ?_;refine aA 4 5 6 7 ?_;refine aA 8 9 10 11 ?_;refine aQ 12 ?_;refine aQ 13 (v:=.int .i64 (p.a.sent+n)) ?_ (hy:=by intro w g;(obtain⟨z0,z1,z2,z3⟩:=g);go_simp;(rw[LF (p.a.sent+n) O]));refine aM 14 15 ?_;refine aQ 16 ?_;refine aQ 17 (v:=.int .i64 m) ?_ (hy:=Q0);refine aQ 18 (v:=.string ⟨(Pr.bytes (p.sd false) n).toArray⟩) ?_ (hy:=Q1);refine aY 19 fun U k=> ?_;go_simp;refine(oH t.fa p.a.c p.now (Pr.bytes (p.sd false) n) _ f.st.pa.a b0.o aa.o (by have h1:=Pr.Dr x.o n;have h2:=x.last;have h3:(p.sd false).all.length<=1000:=x.len;have h4:=x.s0;have h5:=x.sl;show(p.sd false).c.last+_<=_;omega)).mono ?_;rintro e V⟨v,rfl,hl,hc,J⟩;have k4:=f.st.pa.FQ false t.fa.G _ hc J (.inl Z);replace f:=H (f.step k4);have b7:=H hl;clear hl hc J k4;dsimp only[mq];go_simp;refine k.out _ _ (⟨f.row.cell 0 _ Z,f.row.cell 1 _ Z,f.row.cell 2 _ Z,f.st.cell 13 p.now Z⟩) ?_;clear k U u;refine fun u=>aW ?_;refine aA 20 21 22 23 ?_;refine aM 24 25 ?_;refine aQ 26 ?_;refine ay ?_ _;clear u;by_cases he:p.a.c.refusal=0
  ·have HE:=H (show p.a.c.refusal=0 from he);have ag:=H (show p.send false n=(p.kl false { p.a with c:=(p.a.c.send p.now (Pr.bytes (p.sd false) n)).1,sent:=p.a.sent+p.a.c.pd (Pr.bytes (p.sd false) n) }).put false (p.a.c.send p.now (Pr.bytes (p.sd false) n)).2 from by unfold Pr.send;dsimp only;rw[L7 b8.o,L7 (show ¬(p.sd false).c.refusal≠0 from fun I=>I HE.o)];rfl);have bo:=H (show p.a.c.FC (Pr.bytes (p.sd false) n)=p.a.c.pd (Pr.bytes (p.sd false) n)from L9 HE.o);have bu:0<=p.a.c.pd (Pr.bytes (p.sd false) n)/\p.a.c.pd (Pr.bytes (p.sd false) n)<=1000:=by have h1:=Pr.Dr x.o n;have h3:(p.sd false).all.length<=1000:=x.len;have h4:=x.s0;unfold Cn.pd Cn.space;split <;> omega
   go_wp2_with fail;rw[bo.o];obtain⟨y,z⟩:∃y,y=p.a.c.pd (Pr.bytes (p.sd false) n):=⟨_,Z⟩;have b9:=H z;rw[<-z]at bu|-;clear z;refine az (fun W:World=>W.cell? ⟨F,2,none⟩=some (p.a.sent:Y)) (f.row.cell 2 _ Z) fun u=>?_;replace f:=H (f.qn (L5 _ _).drew);have aC:=H (b7.below (L5 V.heap.size V).drew);generalize V.drew=w5 at f u aC|-;have c3:w5.cell? ⟨t.B,2,none⟩=some (p.a.sent:Y):=f.st.cell 2 _ Z;have f3:=f.st.free 2;have K:=H (f.set 2 (p.a.sent+y:Int) (p.kl false { p.a with c:=(p.a.c.send p.now (Pr.bytes (p.sd false) n)).1,sent:=p.a.sent+p.a.c.pd (Pr.bytes (p.sd false) n) }) (by rw[b9.o];rfl) Z Z Z Z Z);refine aA 0 1 2 3 ?_;refine aQ 4 ?_;refine aQ 5 (v:=.int .i64 (p.a.sent+y)) ?_ (hy:=by intro w g;(try dsimp only at g);go_simp;(rw[LF (p.a.sent+y) O]));refine aA 6 7 8 9 ?_;refine aY 10 fun U k=> ?_;go_simp;refine k.out _ _ (K.row.cell 2 _ Z) ?_;clear k U u;refine fun u=>aW ?_;refine ay ?_ _;clear u c3 f3;generalize al:w5.setCell ⟨t.B,2,none⟩ (p.a.sent+y:Int)=w6 at K|-;have a5:=H (show aL w6 _ v _ from by rw[<-al];exact aC.EK f.st.pa (by rw[<-f.st.eB];exact(f.st.pa.set 2 (p.a.sent+y:Int) (p.kl false { p.a with c:=(p.a.c.send p.now (Pr.bytes (p.sd false) n)).1,sent:=p.a.sent+p.a.c.pd (Pr.bytes (p.sd false) n) }) (by rw[b9.o];rfl) Z Z Z Z Z).fr));clear al;have a7:=H (eH (X:=p.kl false { p.a with c:=(p.a.c.send p.now (Pr.bytes (p.sd false) n)).1,sent:=p.a.sent+p.a.c.pd (Pr.bytes (p.sd false) n) }) (i:=false) (l:=(p.a.c.send p.now (Pr.bytes (p.sd false) n)).2) (by rw[<-ag.o];exact ax.o) Pe (b3.kl false _) O);have a0:=cO N _ _ false _ v _ _ K.st.pa a5.o a7.1 a7.2.1 a7.2.2 ab.o;rw[K.st.eB,show bI false=0 from Z]at a0;go_wp2_with fail;refine a0.mono ?_;rintro e w9⟨rfl,t9,k9⟩;go_wp2_with fail
   go_end0
   exact⟨Z,t9,by rw[L.o,ag.o];exact K.st.trans k9⟩
  have b5:=H (show ¬p.a.c.refusal=0 from he);go_wp2_with fail
  go_end0
  have e1:(p.a.c.send p.now (Pr.bytes (p.sd false) n)).1=p.a.c:=by unfold Cn.send;rw[L9 b5.o]
  have e2:p.send false n=p:=by unfold Pr.send;dsimp only;rw[L7 b8.o,L9 (show(p.sd false).c.refusal≠0 from b5.o)]
  refine⟨Z,?_⟩;rw[L.o,e2];have:=f.st;rw[ii p false (show(p.a.c.send p.now (Pr.bytes (p.sd false) n)).1=(p.sd false).c from e1)]at this;exact⟨_,this⟩
 have y0:w.cell? ⟨t.B,6,none⟩=some (t.fb.C:Y):=h.cell 6 _ Z;have y1:w.cell? ⟨t.B,7,none⟩=some (.string ⟨p.b.all.toArray⟩):=h.cell 7 _ Z;have y2:w.cell? ⟨t.B,8,none⟩=some (p.b.sent:Y):=h.cell 8 _ Z;have y3:w.cell? ⟨t.B,9,none⟩=some (.string ⟨p.b.got.toArray⟩):=h.cell 9 _ Z;have y4:w.cell? ⟨t.B,10,none⟩=some (p.b.fin:Y):=h.cell 10 _ Z;have y5:w.cell? ⟨t.B,11,none⟩=some (p.b.closed:Y):=h.cell 11 _ Z;have aa:=H s.Cq;have ax:=H (Pr.DT s true n);have x:=H (s.sd true);have b0:=H s.b.c;have b3:=H A;have b4:=H s.Ei;have ab:=H s.now;have M:=H h;obtain⟨a1,bc⟩:=hn;have a2:0<=p.b.sent:=s.b.s0;have a3:p.b.sent<=p.b.all.length:=s.b.sl;have a4:p.b.all.length<=1000:=s.b.len;show Calls _ _ #[t.B,(1:Int),n] _ _;clear h s A;have hz:(⟨p.b.all.toArray⟩:ByteArray).size=p.b.all.length:=IQ
 obtain⟨R,T⟩:∃R,R=p.send true n:=⟨_,Z⟩;rw[<-T];have L:=H T;clear T
 go_enter Tryz.func22,Tryz.ntmps22
 by_cases j:p.b.closed=true
 ·go_wp2_with fail;refine Lo (LY Z _ _ _) Z ⟨Z,t,?_⟩;rw[L.o];have e:p.send true n=p:=by unfold Pr.send;exact L9 ((.inl j))
  rw[e];exact M.alloc _
 replace j:p.b.closed=false:=by simpa using j
 by_cases E:(p.b.all.length:Int)<=p.b.sent
 ·go_wp2_with fail;refine Lo (LY Z _ _ _) Z ⟨Z,t,?_⟩;rw[L.o];have e:p.send true n=p:=by unfold Pr.send;exact L9 ((.inr E))
  rw[e];exact M.alloc _
 have b8:=H (show ¬((p.sd true).closed=true\/((p.sd true).all.length:Int)<=(p.sd true).sent)from by(rintro (I | I);exact absurd (j.symm.trans I) D;exact E I));go_wp2_with fail;clear y0 y1 y2 y3 y4 y5;change Code.wp _ _ _ _ (w.alloc (.cells (pU t.fb ({ p.b with closed:=false }:Sd)).toArray 34));have f:=H (Ps.new (t7.start M.o) t.fb ({ p.b with closed:=false }:Sd));generalize hF:w.heap.size=F at f|-;generalize w.alloc (.cells (pU t.fb ({ p.b with closed:=false }:Sd)).toArray 34)=w1 at f|-;have bv:=H j;clear j;obtain⟨m,A⟩:∃m:Int,m=min (p.b.sent+n) p.b.all.length:=⟨_,Z⟩;have a6:p.b.sent<=m:=O
 have bz:m<=p.b.all.length:=O
 have b1:0<=m:=O
 have bl:=H A;have bn:=H (show Pr.bytes (p.sd true) n=(p.b.all.take m.toNat).drop p.b.sent.toNat from by rw[A];rfl);clear A;refine az (fun W:World=>W.cell? F=some (t.fb.C:Y)/\W.cell? ⟨F,1,none⟩=some (.string ⟨p.b.all.toArray⟩)/\W.cell? ⟨F,2,none⟩=some (p.b.sent:Y)/\W.cell? ⟨t.B,13,none⟩=some (p.now:Y)) (⟨f.row.cell 0 _ Z,f.row.cell 1 _ Z,f.row.cell 2 _ Z,f.st.cell 13 p.now Z⟩) fun u=>?_;replace f:=H (f.qn (L5 _ _).drew);generalize w1.drew=w3 at f u|-;refine aA 0 1 2 3 ?_;refine aA 4 5 6 7 ?_;refine aA 8 9 10 11 ?_;refine aQ 12 ?_;refine aQ 13 (v:=.int .i64 (p.b.sent+n)) ?_ (hy:=by intro w g;(obtain⟨z0,z1,z2,z3⟩:=g);go_simp;(rw[LF (p.b.sent+n) O]));refine aM 14 15 ?_;refine aQ 16 ?_;refine aQ 17 (v:=.int .i64 m) ?_ (hy:=Q0);refine aQ 18 (v:=.string ⟨(Pr.bytes (p.sd true) n).toArray⟩) ?_ (hy:=Q1);refine aY 19 fun U k=> ?_;go_simp;refine(oH t.fb p.b.c p.now (Pr.bytes (p.sd true) n) _ f.st.pa.b b0.o aa.o (by have h1:=Pr.Dr x.o n;have h2:=x.last;have h3:(p.sd true).all.length<=1000:=x.len;have h4:=x.s0;have h5:=x.sl;show(p.sd true).c.last+_<=_;omega)).mono ?_;rintro e V⟨v,rfl,hl,hc,J⟩;have k4:=f.st.pa.FQ true t.fb.G _ hc J (.inl Z);replace f:=H (f.step k4);have b7:=H hl;clear hl hc J k4;dsimp only[mq];go_simp;refine k.out _ _ (⟨f.row.cell 0 _ Z,f.row.cell 1 _ Z,f.row.cell 2 _ Z,f.st.cell 13 p.now Z⟩) ?_;clear k U u;refine fun u=>aW ?_;refine aA 20 21 22 23 ?_;refine aM 24 25 ?_;refine aQ 26 ?_;refine ay ?_ _;clear u;by_cases he:p.b.c.refusal=0
 ·have HE:=H (show p.b.c.refusal=0 from he);have ag:=H (show p.send true n=(p.kl true { p.b with c:=(p.b.c.send p.now (Pr.bytes (p.sd true) n)).1,sent:=p.b.sent+p.b.c.pd (Pr.bytes (p.sd true) n) }).put true (p.b.c.send p.now (Pr.bytes (p.sd true) n)).2 from by unfold Pr.send;dsimp only;rw[L7 b8.o,L7 (show ¬(p.sd true).c.refusal≠0 from fun I=>I HE.o)];rfl);have bo:=H (show p.b.c.FC (Pr.bytes (p.sd true) n)=p.b.c.pd (Pr.bytes (p.sd true) n)from L9 HE.o);have bu:0<=p.b.c.pd (Pr.bytes (p.sd true) n)/\p.b.c.pd (Pr.bytes (p.sd true) n)<=1000:=by have h1:=Pr.Dr x.o n;have h3:(p.sd true).all.length<=1000:=x.len;have h4:=x.s0;unfold Cn.pd Cn.space;split <;> omega
  go_wp2_with fail;rw[bo.o];obtain⟨y,z⟩:∃y,y=p.b.c.pd (Pr.bytes (p.sd true) n):=⟨_,Z⟩;have b9:=H z;rw[<-z]at bu|-;clear z;refine az (fun W:World=>W.cell? ⟨F,2,none⟩=some (p.b.sent:Y)) (f.row.cell 2 _ Z) fun u=>?_;replace f:=H (f.qn (L5 _ _).drew);have aC:=H (b7.below (L5 V.heap.size V).drew);generalize V.drew=w5 at f u aC|-;have c3:w5.cell? ⟨t.B,8,none⟩=some (p.b.sent:Y):=f.st.cell 8 _ Z;have f3:=f.st.free 8;have K:=H (f.set 8 (p.b.sent+y:Int) (p.kl true { p.b with c:=(p.b.c.send p.now (Pr.bytes (p.sd true) n)).1,sent:=p.b.sent+p.b.c.pd (Pr.bytes (p.sd true) n) }) (by rw[b9.o];rfl) Z Z Z Z Z);refine aA 0 1 2 3 ?_;refine aQ 4 ?_;refine aQ 5 (v:=.int .i64 (p.b.sent+y)) ?_ (hy:=by intro w g;(try dsimp only at g);go_simp;(rw[LF (p.b.sent+y) O]));refine aA 6 7 8 9 ?_;refine aY 10 fun U k=> ?_;go_simp;refine k.out _ _ (K.row.cell 2 _ Z) ?_;clear k U u;refine fun u=>aW ?_;refine ay ?_ _;clear u c3 f3;generalize al:w5.setCell ⟨t.B,8,none⟩ (p.b.sent+y:Int)=w6 at K|-;have a5:=H (show aL w6 _ v _ from by rw[<-al];exact aC.EK f.st.pa (by rw[<-f.st.eB];exact(f.st.pa.set 8 (p.b.sent+y:Int) (p.kl true { p.b with c:=(p.b.c.send p.now (Pr.bytes (p.sd true) n)).1,sent:=p.b.sent+p.b.c.pd (Pr.bytes (p.sd true) n) }) (by rw[b9.o];rfl) Z Z Z Z Z).fr));clear al;have a7:=H (eH (X:=p.kl true { p.b with c:=(p.b.c.send p.now (Pr.bytes (p.sd true) n)).1,sent:=p.b.sent+p.b.c.pd (Pr.bytes (p.sd true) n) }) (i:=true) (l:=(p.b.c.send p.now (Pr.bytes (p.sd true) n)).2) (by rw[<-ag.o];exact ax.o) Pe (b3.kl true _) O);have a0:=cO N _ _ true _ v _ _ K.st.pa a5.o a7.1 a7.2.1 a7.2.2 ab.o;rw[K.st.eB,show bI true=1 from Z]at a0;go_wp2_with fail;refine a0.mono ?_;rintro e w9⟨rfl,t9,k9⟩;go_wp2_with fail
  go_end0
  exact⟨Z,t9,by rw[L.o,ag.o];exact K.st.trans k9⟩
 have b5:=H (show ¬p.b.c.refusal=0 from he);go_wp2_with fail
 go_end0
 have e1:(p.b.c.send p.now (Pr.bytes (p.sd true) n)).1=p.b.c:=by unfold Cn.send;rw[L9 b5.o]
 have e2:p.send true n=p:=by unfold Pr.send;dsimp only;rw[L7 b8.o,L9 (show(p.sd true).c.refusal≠0 from b5.o)]
 refine⟨Z,?_⟩;rw[L.o,e2];have:=f.st;rw[ii p true (show(p.b.c.send p.now (Pr.bytes (p.sd true) n)).1=(p.sd true).c from e1)]at this;exact⟨_,this⟩
end
section
set_option maxHeartbeats 8000000
set_option maxRecDepth 100000
open Go.RowKit Go.Shelf
theorem lO {s o:Sd}(h:Pr.D3 s o=false)(f:o.sent<=o.all.length):(s.got.length:Int)<=o.sent/\s.got=o.all.take s.got.length/\(s.fin=true->o.closed=true/\(s.got.length:Int)=o.sent):=by
 unfold Pr.D3 at h;rw[MR,MR,Lu,Lu]at h;obtain⟨h1,h2,a⟩:=h;refine⟨O,?_,fun b=> ?_⟩
 ·have e:=Decidable.not_not.1 h2
  rwa [show min s.got.length o.all.length=s.got.length by omega]at e
 rw[b]at a
 cases hc:o.closed with
 | false=>rw[hc]at a;cases a
 | true =>
  rw[hc]at a;exact⟨Z,Jf⟩
theorem vg (N:Nat) (t:Ft) (p:Pr) (w:World) (q r:Int) (h:C9 N t p w) (j:Pr.Fit p q r) (h1:Pr.D3 p.a p.b=false) (h2:Pr.D3 p.b p.a=false) :
  Calls Tryz.prog 12 #[t.B] w fun e w'=>e= .returned (0:Int)/\Below w.heap.size w w':=by
 have W:=H h;have X:=H (lO h1 j.b.sl);have HB:=H (lO h2 j.a.sl);have cL:=j.a.sl;have cM:=j.a.len;have cS:=j.b.sl;have cT:=j.b.len;clear h h1 h2 j
 go_enter Tryz.func12,Tryz.ntmps12
 go_wp2_with fail
 go_loopg [3,4] 2 (fun g nv iv wr=>∃(k:Nat),nv=((0:Int):Y)/\iv=((k:Int):Y)/\g+k=2/\Below w.heap.size w wr)
 case atStart=>exact⟨0,Z,Z,Z,.refl _ _⟩
 case round =>
  obtain⟨k,rfl,rfl,cV,z⟩:=hrel;have m:=H z;have f:=H (W.qn z);clear z;have cC:=f.pa.lt;have A:k=0\/k=1\/k=2:=O
  rcases A with E | F | G
  ·subst E;have y0:wr.cell? ⟨t.B,3,none⟩=some (.string ⟨p.a.got.toArray⟩):=f.cell 3 _ Z;have x0:wr.cell? ⟨t.B,6,none⟩=some (t.fb.C:Y):=f.cell 6 _ Z;have x1:wr.cell? ⟨t.B,7,none⟩=some (.string ⟨p.b.all.toArray⟩):=f.cell 7 _ Z;have x2:wr.cell? ⟨t.B,8,none⟩=some (p.b.sent:Y):=f.cell 8 _ Z;have x3:wr.cell? ⟨t.B,9,none⟩=some (.string ⟨p.b.got.toArray⟩):=f.cell 9 _ Z;have x4:wr.cell? ⟨t.B,10,none⟩=some (p.b.fin:Y):=f.cell 10 _ Z;have I:wr.cell? ⟨t.B,11,none⟩=some (p.b.closed:Y):=f.cell 11 _ Z;obtain⟨g1,s,l⟩:=X.o;have J:(⟨p.a.got.toArray⟩:ByteArray).size=p.a.got.length:=by simp[ByteArray.size]
   have K:(⟨p.b.all.toArray⟩:ByteArray).size=p.b.all.length:=IQ
   have L:decide (p.b.sent<(p.a.got.length:Int))=false:=Lh O;have u:min (p.a.got.length:Int) (p.b.all.length:Int)=(p.a.got.length:Int):=O
   have M:(p.a.got.length:Int)<=(p.b.all.length:Int):=O
   have T:(⟨p.b.all.toArray⟩:ByteArray).extract 0 p.a.got.length=⟨p.a.got.toArray⟩:=by rw[gu,MK,<-s]
   clear s;by_cases i:p.a.fin=true
   ·obtain⟨x,y⟩:=l i;have U:wr.cell? ⟨t.B,4,none⟩=some (true:Y):=(f.cell 4 p.a.fin Z).trans (by rw[i]);rw[x]at I;have V:((p.a.got.length:Int) != p.b.sent)=false:=by rw[y];simp
    clear l i x y;go_wp2_with fail
    go_roundg (gk-1)
    case measure=>omega
    case rel=>exact⟨1,IU,IU,O,ai m.o ((L5 wr.heap.size wr).alloc (L6 _) _)⟩
   have U:wr.cell? ⟨t.B,4,none⟩=some (false:Y):=(f.cell 4 p.a.fin Z).trans P9;clear l i;go_wp2_with fail
   go_roundg (gk-1)
   case measure=>omega
   case rel=>exact⟨1,IU,IU,O,ai m.o ((L5 wr.heap.size wr).alloc (L6 _) _)⟩
  ·subst F;have y0:wr.cell? ⟨t.B,9,none⟩=some (.string ⟨p.b.got.toArray⟩):=f.cell 9 _ Z;have x0:wr.cell? t.B=some (t.fa.C:Y):=f.cell 0 _ Z;have x1:wr.cell? ⟨t.B,1,none⟩=some (.string ⟨p.a.all.toArray⟩):=f.cell 1 _ Z;have x2:wr.cell? ⟨t.B,2,none⟩=some (p.a.sent:Y):=f.cell 2 _ Z;have x3:wr.cell? ⟨t.B,3,none⟩=some (.string ⟨p.a.got.toArray⟩):=f.cell 3 _ Z;have x4:wr.cell? ⟨t.B,4,none⟩=some (p.a.fin:Y):=f.cell 4 _ Z;have I:wr.cell? ⟨t.B,5,none⟩=some (p.a.closed:Y):=f.cell 5 _ Z;obtain⟨g1,s,l⟩:=HB.o;have J:(⟨p.b.got.toArray⟩:ByteArray).size=p.b.got.length:=by simp[ByteArray.size]
   have K:(⟨p.a.all.toArray⟩:ByteArray).size=p.a.all.length:=IQ
   have L:decide (p.a.sent<(p.b.got.length:Int))=false:=Lh O;have u:min (p.b.got.length:Int) (p.a.all.length:Int)=(p.b.got.length:Int):=O
   have M:(p.b.got.length:Int)<=(p.a.all.length:Int):=O
   have T:(⟨p.a.all.toArray⟩:ByteArray).extract 0 p.b.got.length=⟨p.b.got.toArray⟩:=by rw[gu,MK,<-s]
   clear s;by_cases i:p.b.fin=true
   ·obtain⟨x,y⟩:=l i;have U:wr.cell? ⟨t.B,10,none⟩=some (true:Y):=(f.cell 10 p.b.fin Z).trans (by rw[i]);rw[x]at I;have V:((p.b.got.length:Int) != p.a.sent)=false:=by rw[y];simp
    clear l i x y;go_wp2_with fail
    go_roundg (gk-1)
    case measure=>omega
    case rel=>exact⟨2,IU,IU,O,ai m.o ((L5 wr.heap.size wr).alloc (L6 _) _)⟩
   have U:wr.cell? ⟨t.B,10,none⟩=some (false:Y):=(f.cell 10 p.b.fin Z).trans P9;clear l i;go_wp2_with fail
   go_roundg (gk-1)
   case measure=>omega
   case rel=>exact⟨2,IU,IU,O,ai m.o ((L5 wr.heap.size wr).alloc (L6 _) _)⟩
  subst G;go_wp2;go_ret;exact⟨Z,m.o⟩
end
end Go.Proofs.YtcmncipikdpnbaaGreatDoor
