import Derived.Test.YtcmncipikdpnbaaGreatDoorTcSnaU
namespace Go.Proofs.YtcmncipikdpnbaaGreatDoor
theorem DY (x:Rw){k:Int}(h0:0<=k)(t:k<=7){n m:Nat}(u:n<=300)(hm:m<=300):∃J:Nat,J<=399/\((ka x k n m).seq J).zx.2=true/\(∀i,i<J->((ka x k n m).seq i).zx.2=false) /\
  ∃q:Pr,q=((ka x k n m).seq J).zx.1/\Pr.Al (cG x) q 2807/\q.a.got=q.b.all/\q.b.got=q.a.all:=by
 obtain⟨j,y,w⟩:=DX x h0 t u hm;have g:=On x k (n:=n) (m:=m) O O;have d:=(w.done (g.seq (eK x) (L9 0) j O).all).1;obtain⟨J,J1,J2,J3⟩:=Ca (f:=fun i=>((ka x k n m).seq i).zx.2) d;have h:=(g.seq (eK x) (L9 0) J O).Od;have p:=zd J2;obtain⟨q,s⟩:∃q,q=((ka x k n m).seq J).zx.1:=⟨_,Z⟩;rw[<-s]at h p
 have o:∀i,(q.sd i).got=(q.sd (!i)).all:=fun i=>by
  have v:Pr.AB (q.sd i) (q.sd (!i))=false:=h.al.pv.AB h.al.run.1 i;have r:=(h.al.pv.r i).2.2 (p i);have c:=h.cl (!i) r.1;have l:=h.all (!i);unfold Pr.AB at v;rw[MO,MO]at v;have e:=v.2.1;rw[Lr,Classical.not_not]at e;rw[e];rw[Mc O]
 exact⟨J,O,J2,J3,q,s,h.al.mono O,o false,o true⟩
end Go.Proofs.YtcmncipikdpnbaaGreatDoor
