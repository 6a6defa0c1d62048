import Derived.Test.YtcmncipikdpnbaaGreatDoorTcHccU
namespace Go.Proofs.YtcmncipikdpnbaaGreatDoor
theorem qF {c:Cn}{M N u:Int}(b:Hv c N)(h1:u<=c.expected+1)(i:M<=u)(h:M<=N)(d:c.bx.has (M-1)):M<=c.expected:=by
 have h3:=b.ok.bx.FD;unfold Cn.expected at h1|-;split
 ·rename_i a;have f:=b.exp a;unfold Cn.expected at f;rw[L7 a]at f;omega
 rename_i a;rw[L5 a]at h1
 rcases Mx c.bx.nx M with g | g
 ·have e:c.bx.nx=M-1:=by omega
  rw[<-e]at d;exact absurd d h3
 exact g
theorem DI.ON {s r:Cn}{a A:List Sg}{q N:Int}(d:DI s r a A q N){g:Sg}(hg:g∈a){M:Int}(c:fY s.cf.kc g<=M)(b:M<fY s.cf.kc g+g.s.length):M<=N:=by
 rcases(d.seg g hg).n with⟨s1,-⟩ | ⟨s1,-⟩
 ·omega
 rw[s1]at b
 simp at b
 omega
def Oe (M:Int)(p:Pr)(L:List Fl)(i:Bool)(T:Int):Prop :=
 M<=(p.sd (!i)).c.expected\/(∃f∈L,f.dst=(!i)/\fY (p.sd i).c.cf.kc f.s<=M/\M<fY (p.sd i).c.cf.kc f.s+f.s.s.length/\fY (p.sd i).c.cf.kc f.s+f.s.s.length<=(p.sd (!i)).c.ann+1)\/((p.sd i).c.fM=M/\M<(p.sd i).c.next/\(p.sd i).c.dl.set=true/\(p.sd i).c.dl.since+(p.sd i).c.dl.ticks<=T)
theorem G1.Oo {K:Prop}{p p':Pr}{j:Bool}{l:List Sg}(h:G1 K p p' j l){i:Bool}{M:Int}(x:(p'.sd i).c.fM<=(p'.sd (!i)).c.expected+1)
  (hk:j=i->(p'.sd i).c.fM=M->(p.sd i).c.fM=M->M<(p.sd i).c.next->(p.sd i).c.dl.set=true->K\/∃f∈l.map (p.fl i),f.dst=(!i)/\fY (p.sd i).c.cf.kc f.s<=M/\M<fY (p.sd i).c.cf.kc f.s+f.s.s.length/\fY (p.sd i).c.cf.kc f.s+f.s.s.length<=(p.sd (!i)).c.ann+1){L:List Fl}{T:Int}(k:Oe M p L i T):Oe M p' (L++l.map (p.fl j)) i T:=by
 have m:=h.mn i;have n:=h.mn (!i);have y:=n.ann
 rcases k with k | ⟨f,hf,q,d,b,a⟩ | ⟨d,b,a,o⟩
 ·exact .inl (Lz k n.exp)
 ·exact .inr (.inl ⟨f,LO _ hf,q,by rw[m.cf];exact d,by rw[m.cf];exact b,by rw[m.cf];omega⟩)
 have r:=m.fM;have t:=m.nx
 rcases(show(p'.sd i).c.fM=M\/M+1<=(p'.sd i).c.fM by omega)with e | e
 ·rcases px (i:=j) (j:=i)with rfl | rfl
  ·rcases hk rfl e d b a with g | ⟨f,hf,u,g1,w,z⟩
   ·refine .inr (.inr ⟨e,O,?_⟩);rw[h.xv.ex.keep g O O a];exact⟨a,o⟩
   exact .inr (.inl ⟨f,Mm _ hf,u,by rw[m.cf];exact g1,by rw[m.cf];exact w,by rw[m.cf];omega⟩)
  exact .inr (.inr ⟨e,by rw[h.Ej];exact b,by rw[h.Ej];exact a,by rw[h.Ej];exact o⟩)
 exact .inl O
theorem Oe.step {P:Pr.zc}{q N:Bool->Int}{p:Pr}{f:Fl}{Q:List Fl}{a b:Int}(o:Cl P p (f::Q) q N a b)(e:Cl P (p.ke f) Q q N (a+1) (b+1))
  (k:Rc (p.sd f.dst).c ((p.ke f).sd f.dst).c ((p.sd f.dst).c.receive p.now f.s).2 p.now f.s (fY (p.sd (!f.dst)).c.cf.kc f.s-1) (iL (p.sd f.dst).c.cf.kc f.s) (N (!f.dst)))(r:(p.ke f).sd (!f.dst)=p.sd (!f.dst))(h:(p.ke f).wire=p.wire++((p.sd f.dst).c.receive p.now f.s).2.map (p.fl f.dst))(t:(p.ke f).now=p.now)
  {i:Bool}{M T:Int}(u:M<=(p.sd i).c.fM)(hk:Oe M p (f::Q++p.wire) i T):Oe M (p.ke f) (Q++(p.ke f).wire) i T:=by
 have g:G1 True p (p.ke f) f.dst ((p.sd f.dst).c.receive p.now f.s).2:=⟨k.sv,k.rv,k.xv,r,h,t⟩;have m:=g.mn i;have du:=e.dp i
 have d:Oe M p (Q++p.wire) i T->Oe M (p.ke f) (Q++(p.ke f).wire) i T:=fun z=>by
  have z:=g.Oo du.fM (fun _ _ _ _ _=>.inl trivial) z;rw[LK,<-h]at z;exact z
 rcases hk with z | ⟨x,hx,j,l,n,w⟩ | z
 ·exact d (.inl z)
 ·rw[LQ]at hx
  rcases Mi.1 hx with rfl | hx
  ·refine .inl ?_;have hi:i= !x.dst:=by rw[j,LF]
   subst hi;rw[LF]at *;have y:=k.has O (M-1) O O;have A:=(e.ns x.dst).1.hv;exact qF A du.fM (Lz u m.fM) ((o.dp (!x.dst)).ON (by rw[LF];unfold jb;exact Md.2 ⟨x,LZ.2 ⟨FE,FE⟩,Z⟩) l n) y
  exact d (.inr (.inl ⟨x,hx,j,l,n,w⟩))
 exact d (.inr (.inr z))
end Go.Proofs.YtcmncipikdpnbaaGreatDoor
