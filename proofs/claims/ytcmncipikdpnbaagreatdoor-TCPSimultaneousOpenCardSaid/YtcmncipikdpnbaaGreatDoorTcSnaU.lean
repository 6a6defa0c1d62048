import Derived.Test.YtcmncipikdpnbaaGreatDoorTcSmzU
namespace Go.Proofs.YtcmncipikdpnbaaGreatDoor
theorem OD (p:Pr)(a b:Nat):(p.seq a).seq b=p.seq (a+b):=by
 induction b with
 | zero=>rfl
 | succ b c=>show((p.seq a).seq b).Ds=(p.seq (a+b)).Ds;rw[c]
theorem Hw.Od {c0:Bool->Cn}{W:List Fl}{T:Int}{p:Pr}(h:Hw c0 W T p):Hw c0 W T p.zx.1:=(h.mR false).mR true
theorem Ga.Od {P:Pr.zc}{N:Bool->Int}{p:Pr}{n:Int}(g:Ga P N p n):Ga P N p.zx.1 (n+3+3):=(g.mR false).mR true
theorem Ck (x:Rw){k:Int}(h0:0<=k)(a:k<=7)(n m:Nat):Hw (zu x) [Oe x k false,Oe x k true] 0 (ka x k n m):=by
 have e:∀i,(ka x k n m).sd i=(Ol x k n m).sd i:=fun i=>by unfold ka;rw[af,af]
 refine⟨fun i=> ?_,Cj x h0 a n m,Z,L4 2,fun i=> ?_,fun i=> ?_,fun i _=> ?_,fun i q=> ?_⟩
 ·rw[e];cases i
  ·exact Dc x false
  exact Dc x true
 ·rw[e];cases i <;> rfl
 ·rw[e];cases i <;> rfl
 ·rw[e];cases i <;> rfl
 rw[e]at q;cases i <;> cases q
theorem Cs (x:Rw){n m:Nat}(y:n<=300)(hm:m<=300):E2 (cG x) (qA n m) ((ka x 0 n m).seq 3)\/(Tn (cG x) ((ka x 0 n m).seq 3) (fun _=>1) (qA n m)/\∀i,tQ (((ka x 0 n m).seq 3).sd i).c):=by
 have e:=On x 0 (n:=n) (m:=m) O O;have h0:=(Ck x (k:=0) (L9 0) D n m).Od;generalize ka x 0 n m=p at e h0
 obtain⟨q,g,h⟩:=h0.tk (U:=1) Z (fun f a=>by
  rcases Mi.1 a with rfl | a
  ·exact⟨Z,L9 1⟩
  rw[Lu.1 a];exact⟨Z,L9 1⟩)
 have h1:=(g.syn (x:=x) (f:=Oe x 0 false) (w:=true) Z Z Z).syn (x:=x) (f:=Oe x 0 true) (w:=false) Z Z Z;have h1:Hw (BV (!true) (qF x (!true)) (BV true (qF x true) (zu x))) [⟨false,2,false,kZ x true⟩,⟨true,2,false,kZ x false⟩] 1 ((q.ke (Oe x 0 false)).ke (Oe x 0 true)):=h1;rw[OC]at h1
 have j:p.seq 1=(q.ke (Oe x 0 false)).ke (Oe x 0 true):=by
  show p.zx.1.tick=_;rw[h];show(((q.ke (Oe x 0 false)).ke (Oe x 0 true)).ki false).ki true=_;rw[h1.ki D,h1.ki D]
 rw[<-j]at h1
 obtain⟨b,d,l⟩:=h1.Od.tk (U:=2) Z (fun f a=>by
  rcases Mi.1 a with rfl | a
  ·exact⟨Z,L9 2⟩
  rw[Lu.1 a];exact⟨Z,L9 2⟩)
 obtain⟨s,hs,h2⟩:=d.Oy (x:=x) (f:=⟨false,2,false,kZ x true⟩) (w:=false) Z Z Z;obtain⟨t,o,h2⟩:=h2.Oy (x:=x) (f:=⟨true,2,false,kZ x false⟩) (w:=true) Z Z Z;have h2:Hw (qF x) [⟨true,3,false,s⟩,⟨false,3,false,t⟩] 2 ((b.ke ⟨false,2,false,kZ x true⟩).ke ⟨true,2,false,kZ x false⟩):=h2
 have r:p.seq 2=(b.ke ⟨false,2,false,kZ x true⟩).ke ⟨true,2,false,kZ x false⟩:=by
  show(p.seq 1).zx.1.tick=_;rw[l];show(((b.ke ⟨false,2,false,kZ x true⟩).ke ⟨true,2,false,kZ x false⟩).ki false).ki true=_;rw[h2.ki D,h2.ki D]
 rw[<-r]at h2;have u:=e.seq (eK x) (L9 0) 2 D;exact h2.Od.Om (U:=3) Z D ⟨Z,Z,L9 3⟩ ⟨Z,Z,L9 3⟩ hs o u.Od
theorem zv (x:Rw){k:Int}(h1:1<=k)(a:k<=7)(n m:Nat):∃v,(ka x k n m).seq 1=Oc (Oe x k true) v/\Hw (BV true (qF x true) (zu x)) [⟨false,2,false,kZ x true⟩] 1 v:=by
 have h0:=(Ck x (k:=k) O a n m).Od;obtain⟨q,b,c⟩:=h0.tk1 (U:=1) Z ⟨Z,L9 1⟩ ⟨Z,by show(1:Int)<1+k;omega⟩;have h2:=b.syn (x:=x) (f:=Oe x k false) (w:=true) Z Z Z;have h2:Hw (BV true (qF x true) (zu x)) [⟨false,2,false,kZ x true⟩] 1 (q.ke (Oe x k false)):=h2;refine⟨_,?_,h2⟩;show(ka x k n m).zx.1.tick=_;rw[c,h2.ki D,h2.ki D]
theorem DW (x:Rw){n m:Nat}(B:n<=300)(hm:m<=300):E2 (cG x) (qA n m) ((ka x 1 n m).seq 4)\/(Tn (cG x) ((ka x 1 n m).seq 4) (fun _=>1) (qA n m)/\∀i,tQ (((ka x 1 n m).seq 4).sd i).c):=by
 have b:=On x 1 (n:=n) (m:=m) O O;obtain⟨v,e,g⟩:=zv x (k:=1) (L9 1) D n m;generalize ka x 1 n m=p at b e;have h1:=g.OL (Oe x 1 true);rw[<-e]at h1
 obtain⟨q,h,j⟩:=h1.Od.tk (U:=2) Z (fun f d=>by
  rcases Mi.1 d with rfl | d
  ·exact⟨Z,L9 2⟩
  rw[Lu.1 d];exact⟨Z,L9 2⟩)
 have h2:=h.syn (x:=x) (f:=Oe x 1 true) (w:=false) Z Z Z;have h2:Hw (BV (!true) (qF x (!true)) (BV true (qF x true) (zu x))) [⟨true,3,false,kZ x false⟩] 2 (q.ke (Oe x 1 true)):=h2;rw[OC]at h2;obtain⟨s,hs,a⟩:=h2.Oy (x:=x) (f:=⟨false,2,false,kZ x true⟩) (w:=false) Z Z Z;have a:Hw (qF x) [⟨true,3,false,kZ x false⟩,⟨true,3,false,s⟩] 2 ((q.ke (Oe x 1 true)).ke ⟨false,2,false,kZ x true⟩):=a
 have l:p.seq 2=(q.ke (Oe x 1 true)).ke ⟨false,2,false,kZ x true⟩:=by
  show(p.seq 1).zx.1.tick=_;rw[j];show(((q.ke (Oe x 1 true)).ke ⟨false,2,false,kZ x true⟩).ki false).ki true=_;rw[a.ki D,a.ki D]
 rw[<-l]at a;have o:=b.seq (eK x) (L9 0) 2 D;have r:=b.seq (eK x) (L9 0) 3 D;have t:Hx x (qA n m) false (qF x false) 3 (p.seq 3):=a.Od.late (U:=3) Z D ⟨Z,Z,L9 3⟩ Z ⟨Z,Z,L9 3⟩ hs o.Od;obtain⟨u,rd⟩:=t.turn (Oh x false) D r
 rcases u.tick (Oh x false) D rd with z | ⟨y,A,-⟩
 ·exact .inl z
 exact .inr ⟨y,A⟩
theorem Ct (x:Rw){k:Int}(h2:2<=k)(I:k<=7){n m:Nat}(V:n<=300)(hm:m<=300):∃j,j<=8/\(E2 (cG x) (qA n m) ((ka x k n m).seq j)\/(Tn (cG x) ((ka x k n m).seq j) (fun _=>1) (qA n m)/\∀i,tQ (((ka x k n m).seq j).sd i).c)):=by
 have d:=On x k (n:=n) (m:=m) O O;obtain⟨v,o,g⟩:=zv x (k:=k) O I n m;generalize ka x k n m=p at d o;have g1:=d.seq (eK x) (L9 0) 1 D;have q:=d.seq (eK x) (L9 0) 2 D;have a:=d.seq (eK x) (L9 0) 3 D;rw[o]at g1;have h:(Oe x k true).due=1+k:=Z;have r:(Oe x k true).held=false:=Z;obtain⟨⟨J,f2,f3,K,L⟩,f6,A,B⟩:=OB x true;have C:Og (cG x) (Oe x k true).dst (Oe x k true).s:=⟨⟨J,f2,f3,K,L⟩,f6⟩
 have t:p.seq 2=Oc (Oe x k true) v.zx.1.tick:=by
  show(p.seq 1).zx.1.tick=_;rw[o,qI];refine Ov r (by rw[g.Od.now,h];omega) (fun f l=> ?_);rw[g.Od.wire]at l;rw[Lu.1 l,g.Od.now];exact⟨Z,L9 2⟩
 have E:Hx x (qA n m) true (qF x true) 2 v.zx.1.tick:=Hw.opened (U:=2) Z D (show Hw (BV true (qF x true) (zu x)) [⟨false,2,false,o7 x⟩] 1 v.zx.1 from g.Od) Z Z g1.un.Od;generalize v.zx.1.tick=v2 at t E;rw[t]at q;obtain⟨b,rd⟩:=E.turn (Oh x true) D q.un;have gt:=q.Od;rw[qI]at gt
 have F:p.seq 3=(Oc (Oe x k true) v2.zx.1).tick:=by
  show(p.seq 2).zx.1.tick=_;rw[t,qI]
 have pt:=b.pt (Oh x true);have u:v2.zx.1.now=2:=b.now
 rcases(show k=2\/3<=k by omega)with e | e
 ·refine⟨3,D,?_⟩;rw[F];refine b.Oj (Oh x true) D rd gt Z C ?_ ⟨Z,by rw[h,u];omega⟩;have M:(pz true (2+1) v2.zx.1).sd (!true)=v2.zx.1.sd (!true):=(O0 true _ _).1;rw[M]at pt;exact⟨A.trans pt.1,B.trans pt.2⟩
 have y:p.seq 3=Oc (Oe x k true) v2.zx.1.tick:=by
  rw[F];refine Ov r (by rw[u,h];omega) (fun f l=> ?_);have:=b.tn.w f (by rw[(O1 true _ _).1];exact l);rw[(O1 true _ _).2.1]at this;exact this
 rw[y]at a
 rcases b.tick (Oh x true) D rd with z | ⟨N,P,S⟩
 ·refine⟨3,D,.inl ?_⟩;rw[y];exact⟨a.al.pv,⟨_,_,a.al.run.1⟩,a.cl,fun i=>by rw[Oi];exact z.re i⟩
 have G:v2.zx.1.tick.now=3:=by rw[(Pr.yv _).1,u];rfl
 have zf:=S false;have pt:(Cb x true).fp=((pz true (2+1) v2.zx.1).sd false).c.cf.tp/\(Cb x true).tp=((pz true (2+1) v2.zx.1).sd false).c.cf.fp:=pt;rw[<-zf]at pt;obtain⟨j,W,T⟩:=N.stray (f:=Oe x k true) (eK x) (fun _=>L9 1) C r (k-3).toNat P a ⟨A.trans pt.1,B.trans pt.2⟩ (by rw[G,h];omega) (by rw[G];omega) D O;refine⟨3+j,O,?_⟩;rw[<-OD,y];exact T
theorem OM (x:Rw){k:Int}(h0:0<=k)(b:k<=7){n m:Nat}(a:n<=300)(hm:m<=300):∃j,j<=8/\(E2 (cG x) (qA n m) ((ka x k n m).seq j)\/(Tn (cG x) ((ka x k n m).seq j) (fun _=>1) (qA n m)/\∀i,tQ (((ka x k n m).seq j).sd i).c)):=by
 rcases(show k=0\/k=1\/2<=k by omega)with rfl | rfl | e
 ·exact⟨3,D,Cs x a hm⟩
 ·exact⟨4,D,DW x a hm⟩
 exact Ct x e b a hm
theorem DX (x:Rw){k:Int}(h0:0<=k)(a:k<=7){n m:Nat}(b:n<=300)(hm:m<=300):∃j,j<=399/\E2 (cG x) (qA n m) ((ka x k n m).seq j):=by
 have c:=On x k (n:=n) (m:=m) O O;obtain⟨j,h,z | ⟨t,s⟩⟩:=OM x h0 a b hm
 ·exact⟨j,O,z⟩
 have d:=c.seq (eK x) (L9 0) j O;have hw:=d.al.run.2;obtain⟨k,f,e⟩:=t.through s (eK x) (fun _=>L9 1) (J:=15) (fun i=>by unfold qA;split <;> omega) O;exact⟨j+k,O,by rw[<-OD];exact e⟩
end Go.Proofs.YtcmncipikdpnbaaGreatDoor
