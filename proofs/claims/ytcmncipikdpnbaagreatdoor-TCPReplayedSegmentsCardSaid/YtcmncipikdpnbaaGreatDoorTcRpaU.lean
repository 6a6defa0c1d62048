import Derived.Test.YtcmncipikdpnbaaGreatDoorUb35
namespace Go.Proofs.YtcmncipikdpnbaaGreatDoor
def O0 (p:Pr):Pr:={ p with wire:=p.log }
structure NZ (P:Pr.zc)(p:Pr):Prop where
 pv:Pr.PV P (O0 p)
 ft:∃a b,Pr.Fit (O0 p) a b
 sub:∀f∈p.wire,f∈p.log
 calm:p.kq.length<=p.many
 ne:∃f,f∈p.log
theorem CM (i:Bool):∀(l:List Sg) (p:Pr),p.kq.length<=p.many->(O0 p).put i l=O0 (p.put i l)/\((∀f∈p.wire,f∈p.log)->∀f∈(p.put i l).wire,f∈(p.put i l).log)/\(p.put i l).kq.length<=(p.put i l).many/\∀f∈p.log,f∈(p.put i l).log:=by
 intro l
 induction l with
 | nil=>intro p h;exact⟨Z,id,h,fun _ h=>h⟩
 | cons s l c =>
  intro p h
  have a:p.wB=0:=by
   unfold Pr.wB;rw[List.getElem?_eq_none_iff.2 h]
  have b:p.AA (p.fl i s)=[p.fl i s]:=by unfold Pr.AA;rw[L7 a]
  obtain⟨d,g,j,k⟩:=c (p.tt i s) (Nat.le_succ_of_le h)
  have e:(O0 p).tt i s=O0 (p.tt i s):=by
   have m:(O0 p).AA ((O0 p).fl i s)=[p.fl i s]:=b;unfold Pr.tt;rw[m];rfl
  refine⟨?_,fun hw=>g fun f a=> ?_,j,fun f a=>k f (LO _ a)⟩
  ·show((O0 p).tt i s).put i l=_;rw[e];exact d
  have a:f∈p.wire++p.AA (p.fl i s):=a;rw[b]at a
  rcases LE.1 a with a | a
  ·exact LO _ (hw f a)
  exact Mm _ a
theorem O4 (p:Pr)(i:Bool)(d:Sd):(O0 p).kd i d=O0 (p.kd i d)/\(p.kd i d).wire=p.wire/\(p.kd i d).log=p.log/\(p.kd i d).kq=p.kq/\(p.kd i d).many=p.many:=by cases i <;> exact⟨Z,Z,Z,Z,Z⟩
theorem NZ.act {P:Pr.zc}{p:Pr}(h:NZ P p)(i:Bool)(d:Sd)(l:List Sg)(k:((O0 p).kd i d).put i l=O0 ((p.kd i d).put i l)->Pr.PV P (O0 ((p.kd i d).put i l))/\∃a b,Pr.Fit (O0 ((p.kd i d).put i l)) a b):NZ P ((p.kd i d).put i l)/\∀f∈p.log,f∈((p.kd i d).put i l).log:=by
 obtain⟨j,m,e,n,o⟩:=O4 p i d;obtain⟨g,q,r,c⟩:=CM i l (p.kd i d) (by rw[n,o];exact h.calm);rw[<-j]at g;obtain⟨s,t⟩:=k g;have c:∀f∈p.log,f∈((p.kd i d).put i l).log:=fun f u=>c f (by rw[e];exact u);exact⟨⟨s,t,q (by rw[m,e];exact h.sub),r,h.ne.imp c⟩,c⟩
theorem O1 (p:Pr)(i:Bool):(O0 p).sd i=p.sd i:=by cases i <;> rfl
theorem NZ.ke {P:Pr.zc}{p:Pr}(h:NZ P p)(k:P.Ok){f:Fl}(hf:f∈p.log):NZ P (p.ke f)/\∀g∈p.log,g∈(p.ke f).log:=by
 obtain⟨a,b,c⟩:=h.ft;have d:=c.wire f hf;have g:=h.pv.w f hf;have i:=Pr.PV.ke h.pv c k d Z Z Z g.1 (Gw.refl _) g.2;have j:=Pr.Ce c d;refine h.act f.dst _ _ fun e=> ?_
 have l:(O0 p).ke f=O0 (p.ke f):=by
  unfold Pr.ke Pr.ro;rw[O1];exact e
 rw[l]at i j;exact⟨i,_,_,j⟩
theorem NZ.ki {P:Pr.zc}{p:Pr}(h:NZ P p)(i:Bool):NZ P (p.ki i)/\∀g∈p.log,g∈(p.ki i).log:=by
 obtain⟨a,b,c⟩:=h.ft;have d:=Pr.PV.ki h.pv c i;have f:=Pr.vw c i;refine h.act i _ _ fun e=> ?_
 have j:(O0 p).ki i=O0 (p.ki i):=by
  unfold Pr.ki Pr.ro;rw[O1];exact e
 rw[j]at d f;exact⟨d,_,_,f⟩
theorem NZ.send {P:Pr.zc}{p:Pr}(h:NZ P p)(i:Bool)(n:Int):NZ P (p.send i n):=by
 obtain⟨a,b,f⟩:=h.ft;have c:=Pr.PV.send h.pv f i n;have d:=Pr.Dz f i n;unfold Pr.send at c d|-;rw[O1]at c d;dsimp only at c d|-;split
 ·exact h
 rename_i g;rw[L5 g]at c d;split
 ·exact h
 rename_i j;rw[L5 j]at c d;refine(h.act i _ _ fun e=> ?_).1;have e:_=_:=e;exact⟨e ▸ c,_,_,e ▸ d⟩
theorem NZ.recv {P:Pr.zc}{p:Pr}(h:NZ P p)(i:Bool){n:Int}(l:0<=n):NZ P (p.recv i n)/\∀g∈p.log,g∈(p.recv i n).log:=by
 obtain⟨a,b,k⟩:=h.ft;have d:=Pr.PV.recv h.pv k i l;have f:=Pr.Dg k i n;unfold Pr.recv at d f|-;rw[O1]at d f;dsimp only at d f|-;split
 ·rename_i j;rw[L7 j]at d f;refine h.act i _ [] fun e=> ?_;have e:(O0 p).ro i ((p.sd i).c.recv p.now n).1=O0 (p.ro i ((p.sd i).c.recv p.now n).1):=by cases i <;> rfl
  exact⟨e ▸ d,_,_,e ▸ f⟩
 rename_i j;rw[L5 j]at d f;exact h.act i _ _ fun e=>⟨e ▸ d,_,_,e ▸ f⟩
theorem NZ.shut {P:Pr.zc}{p:Pr}(h:NZ P p)(i:Bool):NZ P (p.shut i):=by
 obtain⟨a,b,f⟩:=h.ft;have c:=Pr.PV.shut h.pv f i;have d:=Pr.DH f i;unfold Pr.shut at c d|-;rw[O1]at c d;dsimp only at c d|-;split
 ·exact h
 rename_i g;rw[L5 g]at c d;split
 ·exact h
 rename_i j;rw[L5 j]at c d;exact(h.act i _ _ fun e=>⟨e ▸ c,_,_,e ▸ d⟩).1
theorem NZ.mR {P:Pr.zc}{p:Pr}(h:NZ P p)(i:Bool):NZ P (p.mR i):=by
 have k:=((h.send i 1000).recv i (n:=1000) D).1;unfold Pr.mR;dsimp only;split
 ·exact k.shut i
 exact k
theorem NZ.fold {P:Pr.zc}(c:P.Ok):∀(l:List Fl) {p:Pr},NZ P p->(∀f∈l,f∈p.log)->NZ P (l.foldl Pr.ke p)/\∀g∈p.log,g∈(l.foldl Pr.ke p).log:=by
 intro l
 induction l with
 | nil=>intro p h _;exact⟨h,fun _ h=>h⟩
 | cons f l d =>
  intro p h b;obtain⟨h1,h2⟩:=h.ke c (b f M4);obtain⟨e,i⟩:=d h1 fun g a=>h2 g (b g (Mg _ a));exact⟨e,fun g a=>i g (h2 g a)⟩
theorem NZ.tick {P:Pr.zc}{p:Pr}(h:NZ P p)(e:P.Ok)(i:p.now+1<=1000000):NZ P p.tick/\∀g∈p.log,g∈p.tick.log:=by
 obtain⟨a,b,c⟩:=h.ft
 have h0:NZ P { ({ p with now:=p.now+1 }:Pr)with wire:=({ p with now:=p.now+1 }:Pr).rest } :=
  ⟨⟨h.pv.s,h.pv.r,h.pv.w,h.pv.g⟩,⟨_,_,c.a,c.b,⟨by have k:0<=p.now:=c.now.1;show 0<=p.now+1;omega,i⟩,c.wire,c.due,c.log,L9 _,L9 _⟩,fun f d=>(by have d:f∈({ p with now:=p.now+1 }:Pr).rest:=d;have:=Pr.Ec d;exact h.sub f this),h.calm,h.ne⟩
 obtain⟨h1,j⟩:=NZ.fold e ({ p with now:=p.now+1 }:Pr).due h0 fun f d=>h.sub f (Pr.Dy (p:={ p with now:=p.now+1 }) d);obtain⟨h2,l⟩:=h1.ki false;obtain⟨m,n⟩:=h2.ki true;exact⟨m,fun g o=>n g (l g (j g o))⟩
end Go.Proofs.YtcmncipikdpnbaaGreatDoor
