import Derived.Test.YtcmncipikdpnbaaGreatDoorTcHcbU
namespace Go.Proofs.YtcmncipikdpnbaaGreatDoor
structure Oh (c d:Cn):Prop where
 fM:c.fM<=d.fM
 nx:c.next<=d.next
 last:c.last<=d.last
 ann:c.ann<=d.ann
 exp:c.expected<=d.expected
 AC:c.largest<=d.largest
 has:∀i,c.bx.has i->d.bx.has i
 sh:c.shut=true->d.shut=true
 cf:d.cf=c.cf
theorem Oh.refl (c:Cn):Oh c c:=⟨L9 _,L9 _,L9 _,L9 _,L9 _,L9 _,fun _ h=>h,id,Z⟩
theorem Oh.trans {c d e:Cn}(h:Oh c d)(k:Oh d e):Oh c e:=⟨Lz h.fM k.fM,Lz h.nx k.nx,Lz h.last k.last,Lz h.ann k.ann,Lz h.exp k.exp,Lz h.AC k.AC,fun i g=>k.has i (h.has i g),fun g=>k.sh (h.sh g),k.cf.trans h.cf⟩
theorem Mn.mw {c d:Cn}(h:Mn c d):Oh c d:=⟨h.fM,h.nx,h.last,h.ann,h.exp,h.AC,h.has,h.sh,h.cf⟩
theorem Oj.mw {z:Int}{c d:Cn}{l:List Sg}{now:Int}(h:Oj z c d l now):Oh c d:=by
 refine⟨h.sw.fM,h.sw.nx,h.sw.last,?_,h.rv.exp,h.ex.AC,h.rv.has,h.ex.sh,h.sw.cf⟩
 rcases h.rv.k with⟨-,e,-⟩ | ⟨-,-,e,-⟩
 ·omega
 exact e
theorem Oj.sx {z:Int}{c d:Cn}{l:List Sg}{R now:Int}(k:Oj z c d l now)(h:Sx c R now):Sx d R now:=by
 refine⟨k.ex.ci h.ci,k.rv.p2,fun g=> ?_,k.set h.ds,k.ex.ni h.ni,Lz h.HW k.ex.AC,by rw[k.AC];exact h.lR⟩
 rcases k.rv.k with⟨-,-,⟨a,b,-⟩ | ⟨-,-,e⟩⟩ | ⟨-,e,-⟩
 ·rw[b];exact h.al (a.symm.trans g)
 ·rw[e];exact⟨Z,Z,L9 _⟩
 omega
theorem BH.keepW {P:Pr.zc}{p p':Pr}{i:Bool}{N:Int}(h:BH P p i)(b:Hv (p.sd i).c N)(a:Hv (p'.sd i).c N)(m:Oh (p.sd i).c (p'.sd i).c)(g:(p'.sd i).got=(p.sd i).got)(rd:((p.sd i).got.length:Int)<=(p.sd i).c.bx.nx):BH P p' i:=by
 have d:(p.sd i).c.bx.nx<=(p'.sd i).c.bx.nx:=by
  rcases(show(p.sd i).c.bx.nx<=(p'.sd i).c.bx.nx\/(p'.sd i).c.bx.nx<(p.sd i).c.bx.nx by omega)with e | e
  ·exact e
  have h1:=a.ok.bx.Do;have h2:=a.ok.bx.xK;exact absurd (m.has _ (.inl ⟨O,e⟩)) a.ok.bx.FD
 rcases h with h | h
 ·have h1:=b.exp h;have h2:=m.exp;exact .inl (a.rch O)
 refine .inr fun e=> ?_;rw[g]at e|-;have:=h O;have:=m.ann;omega
structure Ol (P:Pr.zc)(p1 p:Pr):Prop where
 now:p.now=p1.now+1
 mn:∀i,Oh (p1.sd i).c (p.sd i).c
 sx:∀i,Sx (p.sd i).c (P.r (!i)) p.now
 w:∀f∈p.wire,f.held=false/\f.due=p.now+1
 sd:∀i,(p.sd i).got=(p1.sd i).got/\(p.sd i).all=(p1.sd i).all/\(p.sd i).closed=(p1.sd i).closed
 rw:∀i,BH P p i
theorem Ol.g1 {P:Pr.zc}{q q' N:Bool->Int}{p1 p p':Pr}{Q k:List Fl}{a b n b':Int}{j:Bool}{l:List Sg}(h:Ol P p1 p)(g:Cl P p Q q N a b)(o:Cl P p' k q' N n b')(m:Oh (p.sd j).c (p'.sd j).c)(sx:Sx (p'.sd j).c (P.r (!j)) p.now)(e:p'.sd (!j)=p.sd (!j))(wire:p'.wire=p.wire++l.map (p.fl j))(now:p'.now=p.now)(d:(p'.sd j).got=(p.sd j).got/\(p'.sd j).all=(p.sd j).all/\(p'.sd j).closed=(p.sd j).closed):Ol P p1 p':=by
 refine⟨now.trans h.now,fun i=> ?_,fun i=> ?_,fun f hf=> ?_,fun i=> ?_,fun i=> ?_⟩
 ·rcases px (i:=j) (j:=i)with rfl | rfl
  ·exact(h.mn _).trans m
  rw[e];exact h.mn _
 ·rw[now]
  rcases px (i:=j) (j:=i)with rfl | rfl
  ·exact sx
  rw[e];exact h.sx _
 ·rw[wire]at hf;rw[now]
  rcases LE.1 hf with hf | hf
  ·exact h.w f hf
  obtain⟨x,-,rfl⟩:=Md.1 hf;exact⟨Z,Z⟩
 ·rcases px (i:=j) (j:=i)with rfl | rfl
  ·exact⟨d.1.trans (h.sd i).1,d.2.1.trans (h.sd i).2.1,d.2.2.trans (h.sd i).2.2⟩
  rw[e];exact h.sd _
 rcases px (i:=j) (j:=i)with rfl | rfl
 ·have r:=(g.pv.r i).1.pi;have s:=r.ok.xK;have t:=r.rd;exact(h.rw i).keepW (g.ns i).1.hv (o.ns i).1.hv m d.1 O
 unfold BH;rw[e];exact h.rw _
theorem Ol.ki {P:Pr.zc}{q N:Bool->Int}{p1 p:Pr}{a b:Int}(d:Cl P p [] q N a b)(h:Ol P p1 p)(hn:p.now<1692)(m:∀i,q i<=(p.sd i).c.fM+1)(lm:∀i,Oc (p.sd i).c (q i) (N i))(j:Bool) :
  E2 P N (p.ki j)\/∃r,(∃a b,Cl P (p.ki j) [] (Od q j r) N a b)/\Ol P p1 (p.ki j)/\(∀i,Od q j r i<=((p.ki j).sd i).c.fM+1)/\ND ((p.ki j).sd j).c p.now/\tQ ((p.ki j).sd j).c/\(p.ki j).sd (!j)=p.sd (!j)/\(p.ki j).now=p.now/\∀i,Oc ((p.ki j).sd i).c (Od q j r i) (N i):=by
 have e:=(d.ns j).1;have ok:=e.hv.ok;have sx:=h.sx j;have o:=d.last j;have ht:=sx.tries hn
 rcases d.Og j ht (m j)with⟨k1,k2⟩ | ⟨z,r,op,rz,rq,r3,k,e2,e3,e4⟩
 ·left
  have f:(p.sd j).c.shut=true:=by
   cases hs:(p.sd j).c.shut with
   | true=>rfl
   | false=>have:=sx.ci.sf hs;omega
  have h1:=o.2 f;have h2:=sx.ci.fa (.inr k1);have h3:=(d.dp j).fM;refine⟨Pr.PV.ki d.pv d.ft j,⟨_,_,Pr.vw d.ft j⟩,fun i=>(by rw[(kV p j i).1,(kV p j i).2];exact d.f2.cl i),fun i=> ?_⟩
  rcases px (i:=j) (j:=i)with rfl | rfl
  ·exact k2
  have n:=(d.ns (!j)).1.hv;rw[LF]at n;rw[(kU p j).2];exact n.rch O
 right
 refine⟨r,⟨_,_,k⟩,h.g1 d k op.mw (op.sx sx) e2 e3 e4 (oY p j),fun i=> ?_,op.ex.nd (fun s=>sx.ni.nd s),?_,e2,e4,fun i=> ?_⟩
 ·rcases px (i:=j) (j:=i)with rfl | rfl
  ·rw[(kZ q i r).1];exact r3
  rw[(kZ q j r).2,e2];exact m _
 ·have t:∃y:Cn,y.Ok/\((p.ki j).sd j).c=(y.push p.now).1:=by
   rw[(kU p j).1]
   rcases wl ok e.now e.st ht with z | ⟨y,g,-,l,-⟩
   ·have h1:=(k.ns j).1.st;rw[(kU p j).1]at h1;omega
   exact⟨y,g,l⟩
  obtain⟨y,g,l⟩:=t;rw[l];exact nK g e.now
 rcases px (i:=j) (j:=i)with rfl | rfl
 ·rw[(kZ q i r).1];exact((lm i).mono rq).sw op.sw rz (k.ns i).2
 rw[(kZ q j r).2,e2];exact lm _
theorem Tn.Og {P:Pr.zc}{p:Pr}{q N:Bool->Int}(h:Tn P p q N)(C:P.Ok)(hn:p.now+1<1692)(E:∀i,q i<=(p.sd i).c.fM+1)(lm:∀i,Oc (p.sd i).c (q i) (N i)) :
  E2 P N p.tick\/∃q',Tn P p.tick q' N/\(∀i,tQ (p.tick.sd i).c)/\Ol P p p.tick/\(∀i,q' i<=(p.tick.sd i).c.fM+1)/\∀i,Oc (p.tick.sd i).c (q' i) (N i):=by
 obtain⟨a0,W,c0⟩:=h.cl;obtain⟨F,G⟩:=c0.I0 O;obtain⟨d1,d2⟩:=eV (p:={ p with now:=p.now+1 }) h.w
 have e:({ p with now:=p.now+1 }:Pr).deliver=p.wire.foldl Pr.ke { p with now:=p.now+1,wire:=[] }:=by
  unfold Pr.deliver;rw[d1,d2]
 have base:Ol P p { p with now:=p.now+1,wire:=[] } :=
  ⟨Z,fun i=>.refl _,fun i=>(h.sx i).I0,fun f hf=>(by cases hf),fun i=>⟨Z,Z,Z⟩,h.rw⟩
 unfold Pr.tick;rw[e]
 rcases Cl.fold C (q:=q) (N:=N) (fun t _=>Ol P p t/\∀i,Oc (t.sd i).c (q i) (N i)) (fun p f Q a b u y x k z I J=>by
  obtain⟨m,xl⟩:=y;have hw:f.s.win<=P.r (!f.dst):=(u.qg f FE).1.win;have K:=(m.sx f.dst).lR;refine⟨Ol.g1 m u x (Mn.of k.sv k.rv k.xv).mw ((m.sx f.dst).step k.rv k.xv (by rw[k.AC];omega)) z I J (lG p f),fun i=> ?_⟩
  rcases px (i:=f.dst) (j:=i)with rfl | rfl
  ·exact(xl f.dst).sv k.sv (x.ns f.dst).2
  rw[z];exact xl _) p.wire (F.off G) ⟨base,lm⟩with k | ⟨c2,k2,Oq⟩
 ·exact .inl ((k.ki false).ki true)
 generalize p.wire.foldl Pr.ke { p with now:=p.now+1,wire:=[] }=p2 at c2 k2 Oq|-;have A:p2.now<1692:=by rw[k2.now];exact hn
 rcases k2.ki c2 A (fun i=>by have:=E i;have:=(k2.mn i).fM;omega) Oq false with k | ⟨r3,⟨a3,b3,c3⟩,k3,q3,OK,OL,o3,n3,OM⟩
 ·exact .inl (k.ki true)
 have L:(p2.ki false).now<1692:=by rw[n3];exact A
 rcases k3.ki c3 L q3 OM true with k | ⟨X,M,d,S,l,n,B,T,o⟩
 ·exact .inl k
 refine .inr ⟨_,⟨M,d.sx,fun i=> ?_,fun f hf=> ?_,d.rw,fun i=>⟨(h.par i).1,?_⟩,fun i=> ?_,fun i g=> ?_⟩,fun i=> ?_,d,S,o⟩
 ·rw[T,n3];rw[n3]at l
  cases i
  ·rw[show((p2.ki false).ki true).sd false=(p2.ki false).sd false from B];exact OK
  exact l
 ·obtain⟨U,V⟩:=d.w f hf;exact⟨U,Mr V⟩
 ·rw[(d.mn i).cf];exact(h.par i).2
 ·rw[(d.sd i).2.1];exact h.all i
 ·rw[(d.sd i).2.2]at g;exact(d.mn i).sh (h.cs i g)
 cases i
 ·rw[show((p2.ki false).ki true).sd false=(p2.ki false).sd false from B];exact OL
 exact n
end Go.Proofs.YtcmncipikdpnbaaGreatDoor
