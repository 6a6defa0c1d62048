import Derived.Test.YtcmncipikdpnbaaGreatDoorTcHceU
namespace Go.Proofs.YtcmncipikdpnbaaGreatDoor
theorem Oe.ki {P:Pr.zc}{p:Pr}{q N:Bool->Int}{a b s b' R:Int}{j:Bool}(f:Cl P p [] q N a b)(l:Cl P (p.ki j) [] q N s b')(sx:Sx (p.sd j).c R p.now)(hn:p.now<1692)(hz:(p.sd j).c.flight<=0->0<(p.sd j).c.iq->(p.sd j).c.next+20<=(p.sd j).c.limit)
  {i:Bool}{M T:Int}(t:M<=N i)(lm:Oc (p.sd i).c (M+1) (N i))(hw:(p.sd (!i)).c.reached=false->M<=(p.sd (!i)).c.ann)(k:Oe M p p.wire i T):Oe M (p.ki j) (p.ki j).wire i T/\Oc ((p.ki j).sd i).c (M+1) (N i):=by
 have h:=(f.ns j).1;have ht:=sx.tries hn;obtain⟨⟨u,w,x⟩,y,-⟩:=kR j ((p.sd j).c.tick p.now).1 ((p.sd j).c.tick p.now).2 f.calm;have m:((p.ki j).sd j).c=((p.sd j).c.tick p.now).1:=u;have n:(p.ki j).sd (!j)=p.sd (!j):=w;have o:(p.ki j).wire=p.wire++((p.sd j).c.tick p.now).2.map (p.fl j):=x
 rcases BD h.hv h.fM h.now h.st ht hz with z | op
 ·have:=l.st j;rw[m]at this;omega
 rw[<-m]at op;have g:G1 _ p (p.ki j) j ((p.sd j).c.tick p.now).2:=⟨op.sv,op.rv,op.xv,n,o,y⟩;refine⟨?_,?_⟩
 ·have d:(p.sd (!i)).c.reached=true\/(p.sd (!i)).c.reached=false:=by cases (p.sd (!i)).c.reached <;> simp
  rcases d with d | d
  ·have r:=(f.ns (!i)).1.hv;rw[LF]at r;have h1:=r.exp d;have h2:=(g.mn (!i)).exp;exact .inl O
  rw[o];refine g.Oo (l.dp i).fM (fun e C A B E=> ?_) k;subst e
  cases hd:(p.sd j).c.dl.due p.now with
  | false=>exact .inl Z
  | true=>exact .inr (f.again j sx.ci ht hd A B t lm (hw d) d)
 rcases px (i:=j) (j:=i)with rfl | rfl
 ·exact lm.sv op.sv (l.ns i).2
 rw[n];exact lm
theorem Tn.Ou {P:Pr.zc}{p:Pr}{q N:Bool->Int}(h:Tn P p q N)(I:P.Ok)(rd:∀i,Rd P p i)(hn:p.now+1<1692)
  {i:Bool}{M T:Int}(u:M<=N i)(J:M<=(p.sd i).c.fM)(lm:Oc (p.sd i).c (M+1) (N i))(hw:(p.sd (!i)).c.reached=false->M<=(p.sd (!i)).c.ann)(k:Oe M p p.wire i T) :
  E2 P N p.tick\/(Oe M p.tick p.tick.wire i T/\Oc (p.tick.sd i).c (M+1) (N i)):=by
 obtain⟨a0,b0,c0⟩:=h.cl;have g:∀i,40<=P.r i:=fun i=>(h.par i).1;obtain⟨K,y⟩:=c0.I0 O;obtain⟨d1,d2⟩:=eV (p:={ p with now:=p.now+1 }) h.w
 have e:({ p with now:=p.now+1 }:Pr).deliver=p.wire.foldl Pr.ke { p with now:=p.now+1,wire:=[] }:=by
  unfold Pr.deliver;rw[d1,d2]
 have base:Fo P N p { p with now:=p.now+1,wire:=[] } p.wire :=
  ⟨Z,fun i=>.refl _,fun i=>(h.sx i).I0,fun f hf=>.inl hf,fun f hf=>hf,fun i=>(c0.dp i).fM,fun f hf=>(by cases hf),fun i M T x=>by(rw[LM];exact x),fun i T _ _ x=>by(rw[LM];exact x),fun i=>⟨Z,Z,Z⟩,h.rw⟩
 have hz:∀{d:Pr} {a b:Int},Cl P d [] q N a b->Fo P N p d []->∀j,(d.sd j).c.flight<=0->0<(d.sd j).c.iq->(d.sd j).c.next+20<=(d.sd j).c.limit:=fun {d a b} c2 k2 j y f2=>by
  have hl:=c2.last j;have L:(d.sd j).c.iq=max 0 ((d.sd j).c.last-(d.sd j).c.next):=Z;have S:(d.sd j).c.flight=(d.sd j).c.next-(d.sd j).c.fM:=Z;have U:=(c2.ns j).1.hv.ok.fM;exact(k2.hz c0 rd g j O O).1
 have z:∀{d:Pr} {a b:Int},Cl P d [] q N a b->Fo P N p d []->(d.sd (!i)).c.reached=false->M<=(d.sd (!i)).c.ann:=fun {d a b} c2 k2 hr=>by
  have m:=k2.mn (!i);exact Lz (hw (kP (c0.ns (!i)).1.hv (c2.ns (!i)).1.hv m.exp hr)) m.ann
 unfold Pr.tick;rw[e]
 rcases Cl.fold I (q:=q) (N:=N) (fun l Q=>Fo P N p l Q/\Oe M l (Q++l.wire) i T/\Oc (l.sd i).c (M+1) (N i)) (fun l f Q a b A V o kr s B C=>by
  obtain⟨E,W,F⟩:=V;refine⟨Fo.step ⟨_,_,c0⟩ A E o kr s B C,Oe.step A o kr s B C (Lz J (E.mn i).fM) W,?_⟩
  rcases px (i:=f.dst) (j:=i)with rfl | rfl
  ·exact F.sv kr.sv (o.ns f.dst).2
  rw[s];exact F) p.wire (K.off y) ⟨base,by rw[LM];exact k,lm⟩with k | ⟨c2,k2,Ow,Oq⟩
 ·exact .inl ((k.ki false).ki true)
 generalize p.wire.foldl Pr.ke { p with now:=p.now+1,wire:=[] }=d at c2 k2 Ow Oq|-;rw[LD]at Ow;have t:d.now<1692:=by rw[k2.now];exact hn
 rcases k2.ki c0 rd g c2 t false with k | ⟨⟨a3,b3,c3⟩,n,-,-,⟨K3,l3,X⟩,-⟩
 ·exact .inl (k.ki true)
 have G:(d.ki false).now<1692:=by rw[X.now];exact t
 obtain⟨a2,a5⟩:=Oe.ki c2 c3 (k2.sx false) t (hz c2 k2 false) u Oq (z c2 k2) Ow
 rcases n.ki c0 rd g c3 G true with k | ⟨⟨a4,b4,c4⟩,k4,-,-,-,-⟩
 ·exact .inl k
 exact .inr (Oe.ki c3 c4 (n.sx true) G (hz c3 n true) u a5 (z c3 n) a2)
end Go.Proofs.YtcmncipikdpnbaaGreatDoor
