import Derived.Test.YtcmncipikdpnbaaGreatDoorTcSmrU
namespace Go.Proofs.YtcmncipikdpnbaaGreatDoor
theorem OA (P:Pr.zc)(f:Fl)(p:Pr)(i:Bool):Pr.kx P (Oc f p) i=Pr.kx P p i:=by cases i <;> rfl
theorem Tn.stray {P:Pr.zc}{q N:Bool->Int}{f:Fl}(b:P.Ok)(x:∀i,q i<=1)(ho:Og P f.dst f.s)(r:f.held=false):∀(m:Nat) {p:Pr} {n:Int},Tn P p q N->(∀i,tQ (p.sd i).c)->Ga P N (Oc f p) n->(f.s.fp=(p.sd f.dst).c.cf.tp/\f.s.tp=(p.sd f.dst).c.cf.fp)->f.due=p.now+1+m->p.now+1+m<1692->0<=n->n+7*(m+1)<=5000 ->
  ∃k,k<=m+1/\(E2 P N ((Oc f p).seq k)\/(Tn P ((Oc f p).seq k) q N/\∀i,tQ (((Oc f p).seq k).sd i).c)):=by
 intro m
 induction m with
 | zero =>
  intro p n h hs g d y z h0 A;obtain⟨j,a,d1⟩:=h.zx;have l:=(g.mR false).mR true;have B:((Oc f p).mR false).mR true=Oc f p.zx.1:=congrArg Prod.fst (qI f p);rw[B]at l;have t:f∈(Oc f p.zx.1).wire:=M4;have C:=l.al.pv.w f t;have o:=l.al.run.1.wire f t;have E:=(a.mn f.dst).cf;have k:=j.Oj b (fun i=>(d1 i).rd) (by have:=a.now;omega) ho (by rw[E];exact d) o C Z ⟨r,by have:=a.now;omega⟩;refine⟨1,O,?_⟩
  have e:(Oc f p).seq 1=(Oc f p.zx.1).tick:=by
   show(Oc f p).zx.1.tick=_;rw[qI]
  rw[e];exact k
 | succ m F =>
  intro p n h hs g d y z h0 A;obtain⟨j,a,d1⟩:=h.zx
  have e:(Oc f p).Ds=Oc f p.Ds:=by
   show(Oc f p).zx.1.tick=_;rw[qI];exact Ov r (by have:=a.now;omega) j.w
  have g1:=g.Ds b h0 O;rw[e]at g1
  rcases h.round hs b O x with k | ⟨G,I,u⟩
  ·refine⟨1,O,.inl ?_⟩;show E2 P N (Oc f p).Ds;rw[e];exact⟨g1.al.pv,⟨_,_,g1.al.run.1⟩,g1.cl,fun i=>by rw[Oi];exact k.re i⟩
  have K:=u.now;obtain⟨k,L,J⟩:=F G I g1 (by rw[(u.mn f.dst).cf];exact d) O O O O;refine⟨k+1,O,?_⟩;rw[nS,e];exact J
end Go.Proofs.YtcmncipikdpnbaaGreatDoor
