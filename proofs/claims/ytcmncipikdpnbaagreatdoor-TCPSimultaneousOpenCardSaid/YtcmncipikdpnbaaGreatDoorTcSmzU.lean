import Derived.Test.YtcmncipikdpnbaaGreatDoorTcSmyU
namespace Go.Proofs.YtcmncipikdpnbaaGreatDoor
def Ol (x:Rw)(k:Int)(n m:Nat):Pr:={ a:=Cm (zu x false) (dW 0 n),b:=Cm (zu x true) (dW 1 m),wire:=[],now:=0,kq:=[0,4+k],many:=0,log:=[] }
def ka (x:Rw)(k:Int)(n m:Nat):Pr:=((Ol x k n m).put false [nX x false]).put true [nX x true]
def Oe (x:Rw)(k:Int)(i:Bool):Fl:=match i with | false=>⟨true,1,false,nX x false⟩ | true=>⟨false,1+k,false,nX x true⟩
theorem Cj (x:Rw){k:Int}(h0:0<=k)(g:k<=7)(n m:Nat):(ka x k n m).wire=[Oe x k false,Oe x k true]:=by
 have b:(Ol x k n m).wB=0:=Z;obtain⟨q,a⟩:∃q,q=(Ol x k n m).tt false (nX x false):=⟨_,Z⟩
 have c:q.wB=4+k:=by
  rw[a];show aO (4+k) 24=4+k;unfold aO;rw[L5 O];omega
 have d:q.wire=[Oe x k false]:=by
  rw[a];unfold Pr.tt Pr.AA;rw[b];rfl
 have e:(ka x k n m).wire=(q.tt true (nX x true)).wire:=by rw[a];rfl
 rw[e];unfold Pr.tt Pr.AA;rw[c,d,L5 O,L5 O,L5 O,L5 O];have f:q.now=0:=by rw[a];rfl
 show [Oe x k false]++[({ (q.fl true (nX x true))with due:=q.now+(4+k)-3 }:Fl)]=_;rw[f,show(0:Int)+(4+k)-3=1+k by omega];rfl
theorem xJ (x:Rw)(w:Bool):(tx 0 (Cb x w)).Ok/\(zu x w).Ok:=by
 have k:(Cb x w).okB=true:=by
  cases w
  ·exact(uS x).1
  exact(uS x).2
 have h:=(gK uT k).step uT J0 1;exact⟨h,h.v6⟩
theorem Ox (x:Rw)(w:Bool):SI ⟨[],false,(cG x).kc w,28+aO x.gi 100,(cG x).r w,(cG x).r (!w)⟩ (tx 0 (Cb x w))/\SI ⟨[],false,(cG x).kc w,28+aO x.gi 100,(cG x).r w,(cG x).r (!w)⟩ (zu x w):=by
 have a:=zi x (!w)
 have h:SI ⟨[],false,(cG x).kc w,28+aO x.gi 100,(cG x).r w,(cG x).r (!w)⟩ (tx 0 (Cb x w)):=by
  cases w
  ·exact⟨L9 1,Z,Z,by show(1:Int)<=1+(0:Nat)+0;decide,(fun h=>nomatch h),by show(1:Int)<=max 0 1;decide,L9 1,Z,LW _,(by show(0:Int)<=1+(cG x).r (!false);omega),(fun h=>absurd h (by show ¬(1:Int)<=0;decide)),by show min (1:Int) (1+(0:Nat))<=0+1;decide,L9 _,Z⟩
  exact⟨L9 1,Z,Z,by show(1:Int)<=1+(0:Nat)+0;decide,(fun h=>nomatch h),by show(1:Int)<=max 0 1;decide,L9 1,Z,LW _,(by show(0:Int)<=1+(cG x).r (!true);omega),(fun h=>absurd h (by show ¬(1:Int)<=0;decide)),by show min (1:Int) (1+(0:Nat))<=0+1;decide,L9 _,Z⟩
 exact⟨h,h.v6⟩
theorem OK (x:Rw)(k:Int)(n m:Nat)(a:n<=1000)(hm:m<=1000):Pr.Fit (Ol x k n m) 2000 100:=by
 have h1:∀w,(zu x w).xJ=3:=fun w=>by cases w <;> rfl
 refine⟨⟨(xJ x false).2,?_,L9 0,?_,Z,?_⟩,⟨(xJ x true).2,?_,L9 0,?_,Z,?_⟩,⟨L9 0,by show(0:Int)<=1000000;decide⟩,(fun f h=>nomatch h),(fun f h=>nomatch h),(fun f h=>nomatch h),?_,?_⟩
 ·show(dW 0 n).length<=1000;rw[ly];exact a
 ·show(0:Int)<=(dW 0 n).length;omega
 ·show(1:Int)<=1+(0:Nat)+1;decide
 ·show(dW 1 m).length<=1000;rw[ly];exact hm
 ·show(0:Int)<=(dW 1 m).length;omega
 ·show(1:Int)<=1+(0:Nat)+1;decide
 ·unfold Pr.Q Pr.rem;show((0:Nat):Int)+max 0 (((2:Nat):Int)-(0:Nat))+(zu x false).xJ+(zu x true).xJ<=2000;rw[h1,h1]
  decide
 unfold Pr.R;show((0:Nat):Int)+(zu x false).xJ+(zu x true).xJ<=100;rw[h1,h1]
 decide
theorem Da (x:Rw)(k:Int)(n m:Nat):Pr.PV (cG x) (Ol x k n m):=by
 refine⟨fun i=> ?_,fun i=> ?_,(fun f h=>nomatch h),fun L f M h=> ?_⟩
 ·cases i
  ·exact⟨(Ox x false).2,fun h=>absurd h (by show ¬(3:Int)<=1;decide)⟩
  exact⟨(Ox x true).2,fun h=>absurd h (by show ¬(3:Int)<=1;decide)⟩
 ·have a:=zi x i
  cases i
  ·exact⟨DN ((cG x).r false).toNat O O Z Z,.inr (.inl Z),(fun h=>nomatch h)⟩
  exact⟨DN ((cG x).r true).toNat O O Z Z,.inr (.inl Z),(fun h=>nomatch h)⟩
 have:=congrArg List.length h;rw[La]at this
 simp[Ol]at this
theorem On (x:Rw)(k:Int){n m:Nat}(a:n<=1000)(hm:m<=1000):Ga (cG x) (qA n m) (ka x k n m) 0:=by
 have ok:∀w,(nX x w).Ok:=fun w=>(xJ x w).1.Dx;have gs:∀w,GS ⟨[],false,(cG x).kc w,28+aO x.gi 100,(cG x).r w,(cG x).r (!w)⟩ (nX x w):=fun w=>(Ox x w).1.syn (xJ x w).1;have b:=Pr.Fh false [nX x false] (OK x k n m a hm) (Cn.Ok.BT (ok false));have f2:=Pr.Fh true [nX x true] b (Cn.Ok.BT (ok true));have p1:=Pr.PV.put false _ (Da x k n m) (Cn.Ok.BT (gs false))
 have c:=Pr.PV.put true [nX x true] p1 (Cn.Ok.BT (by
  have e:Pr.kx (cG x) ((Ol x k n m).put false [nX x false]) true=⟨[],false,(cG x).kc true,28+aO x.gi 100,(cG x).r true,(cG x).r false⟩:=Z;rw[e];exact gs true))
 refine⟨⟨⟨f2.mono (by show(2000:Int)+1+1<=3000*(0+1);decide) (by show(100:Int)+1+1<=15003000*(0+1);decide),?_⟩,c,Pr.Ml.put (Pr.Ml.put (show(Ol x k n m).Ml from Z) _ _) _ _⟩,fun i h=>(by cases i <;> cases h),fun i=> ?_⟩
 ·unfold ka;rw[(bs _ _ _).2.2.1,(bs _ _ _).2.2.1];exact L9 0
 cases i
 ·exact congrArg Int.ofNat (ly 0 n)
 exact congrArg Int.ofNat (ly 1 m)
theorem Ga.un {P:Pr.zc}{N:Bool->Int}{f:Fl}{p:Pr}{n:Int}(g:Ga P N (Oc f p) n):Ga P N p n:=by
 have d:=g.al.run.1;have pv:=g.al.pv;refine⟨⟨⟨⟨d.a,d.b,d.now,fun k e=>d.wire k (Mg _ e),fun k e=>d.due k (Mg _ e),d.log,?_,d.r⟩,g.al.run.2⟩,⟨pv.s,pv.r,fun k e=>pv.w k (Mg _ e),pv.g⟩,g.al.ml⟩,fun i h=> ?_,fun i=> ?_⟩
 ·refine Lz ?_ d.q;unfold Pr.Q;show(p.wire.length:Int)+p.rem+p.a.c.xJ+p.b.c.xJ<=((f::p.wire).length:Int)+p.rem+p.a.c.xJ+p.b.c.xJ;rw[Lx];omega
 ·have k:=g.cl i;rw[Oi]at k;exact k h
 have k:=g.all i;rw[Oi]at k;exact k
theorem Hw.tk {c0:Bool->Cn}{W:List Fl}{T U:Int}{r:Pr}(hU:U=T+1)(h:Hw c0 W T r)(hw:∀f∈W,f.held=false/\f.due<=U):∃q,Hw c0 [] U q/\r.tick=((W.foldl Pr.ke q).ki false).ki true:=by
 have c:=h.now
 obtain⟨d1,d2⟩:=eV (p:={ r with now:=r.now+1 }) (fun k a=>by
  have a:k∈r.wire:=a;rw[h.wire]at a;exact⟨(hw k a).1,by have:=(hw k a).2;show k.due<=r.now+1;omega⟩)
 refine⟨{ r with now:=r.now+1,wire:=[] },⟨h.b,Z,by show r.now+1=U;omega,h.calm,h.got,h.fin,h.sh,h.cs⟩,?_⟩;unfold Pr.tick Pr.deliver;rw[d1,d2];show(((r.wire).foldl Pr.ke _).ki false).ki true=_;rw[h.wire]
theorem Hw.OL {c0:Bool->Cn}{W:List Fl}{T:Int}{r:Pr}(h:Hw c0 W T r)(f:Fl):Hw c0 (f::W) T (Oc f r):=by
 refine⟨fun i=> ?_,?_,h.now,h.calm,fun i=> ?_,fun i=> ?_,fun i=> ?_,fun i=> ?_⟩
 ·rw[Oi];exact h.b i
 ·show f::r.wire=_;rw[h.wire]
 ·rw[Oi];exact h.got i
 ·rw[Oi];exact h.fin i
 ·rw[Oi];exact h.sh i
 rw[Oi];exact h.cs i
theorem Hw.tk1 {c0:Bool->Cn}{a b:Fl}{T U:Int}{r:Pr}(hU:U=T+1)(h:Hw c0 [a,b] T r)(ha:a.held=false/\a.due<=U)(c:b.held=false/\U<b.due):∃q,Hw c0 [] U q/\r.tick=Oc b (((q.ke a).ki false).ki true):=by
 have l:=h.now;have d:Pr.tD (r.now+1) a=true:=by unfold Pr.tD;rw[ha.1,Lc (by have:=ha.2;omega)];rfl
 have e:Pr.tD (r.now+1) b=false:=by unfold Pr.tD;rw[c.1,Lf (by have:=c.2;omega)];rfl
 have g:Pr.El (r.now+1) r.wire=[a]:=by rw[h.wire];unfold Pr.El;simp[d,e]
 have i:Pr.Dm (r.now+1) r.wire=[b]:=by rw[h.wire];unfold Pr.Dm;simp[d,e]
 have el:Pr.v7 (r.now+1) [a] b=false:=by unfold Pr.v7;rw[c.1];rfl
 obtain⟨q,j⟩:∃q:Pr,q={ r with now:=r.now+1,wire:=[] }:=⟨_,Z⟩;refine⟨q,by rw[j];exact⟨h.b,Z,by show r.now+1=U;omega,h.calm,h.got,h.fin,h.sh,h.cs⟩,?_⟩
 have d1:({ r with now:=r.now+1 }:Pr).due=[a]:=by
  unfold Pr.due;show Pr.El (r.now+1) r.wire++(Pr.Dm (r.now+1) r.wire).filter (Pr.v7 (r.now+1) (Pr.El (r.now+1) r.wire))=_;rw[g,i]
  simp[el]
 have d2:({ r with now:=r.now+1 }:Pr).rest=[b]:=by
  unfold Pr.rest;show(Pr.Dm (r.now+1) r.wire).filter (fun f=> !Pr.v7 (r.now+1) (Pr.El (r.now+1) r.wire) f)=_;rw[g,i]
  simp[el]
 have k:({ r with now:=r.now+1 }:Pr).deliver=Oc b (q.ke a):=by
  unfold Pr.deliver;rw[d1,d2,<-AC,j];rfl
 unfold Pr.tick;rw[k,tv,tv]
def BV (w:Bool)(u:Cn)(c0:Bool->Cn):Bool->Cn:=fun j=>if j=w then u else c0 j
theorem Hw.syn {x:Rw}{c0:Bool->Cn}{W:List Fl}{T:Int}{p:Pr}(h:Hw c0 W T p){f:Fl}{w:Bool}(hd:f.dst=w)(hf:f.s=nX x (!w))(g:c0 w=zu x w):Hw (BV w (qF x w) c0) (W++[⟨!w,T+1,false,kZ x w⟩]) T (p.ke f):=by
 have d:=h.b w;rw[g]at d;have a:(p.sd w).c.st=1:=by rw[d.f.1];cases w <;> rfl
 obtain⟨c',e,hw,hs⟩:=OI x w T d (h.sh w a);have k:=h.recv (f:=f) (c':=c') (l:=[kZ x w]) (w0:=qF x w) (by rw[hd,hf,h.now];exact e) hw (by rw[hd,hs,h.sh w a]) (by rw[(hw.wx (Oh x w)).st];decide);rw[hd]at k;have i:p.fl w (kZ x w)=⟨!w,T+1,false,kZ x w⟩:=by unfold Pr.fl;rw[h.now]
 rw[M6,Mp,i]at k;exact k
theorem Hw.Oy {x:Rw}{c0:Bool->Cn}{W:List Fl}{T:Int}{p:Pr}(h:Hw c0 W T p){f:Fl}{w:Bool}(hd:f.dst=w)(hf:f.s=kZ x (!w))(d:c0 w=qF x w):∃s,Of x w s/\Hw c0 (W++[⟨!w,T+1,false,s⟩]) T (p.ke f):=by
 have a:=h.b w;rw[d]at a;obtain⟨s,e,hs⟩:=AD x w T a;have k:=h.recv (f:=f) (c':=(p.sd w).c) (l:=[s]) (w0:=qF x w) (by rw[hd,hf,h.now];exact e) a (by rw[hd]) (by rw[(a.wx (Oh x w)).st];decide);rw[hd]at k;have g:p.fl w s=⟨!w,T+1,false,s⟩:=by unfold Pr.fl;rw[h.now]
 rw[M6,Mp,g]at k;refine⟨s,hs,?_⟩
 have i:(fun j=>if j=w then qF x w else c0 j)=c0:=by
  funext j
  split
  ·rename_i e;rw[e,d]
  rfl
 rw[i]at k;exact k
theorem De (w:Bool)(u:Cn)(c0:Bool->Cn):BV w u c0 w=u/\BV w u c0 (!w)=c0 (!w):=by cases w <;> exact⟨Z,Z⟩
theorem OC (x:Rw)(w:Bool):BV (!w) (qF x (!w)) (BV w (qF x w) (zu x))=qF x:=by
 funext j
 cases j <;> cases w <;> rfl
end Go.Proofs.YtcmncipikdpnbaaGreatDoor
