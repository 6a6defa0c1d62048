import Derived.Test.YtcmncipikdpnbaaGreatDoorTcHcaU
namespace Go.Proofs.YtcmncipikdpnbaaGreatDoor
def Od (q:Bool->Int)(i:Bool)(r:Int):Bool->Int:=fun j=>if j=i then r else q j
theorem kZ (q:Bool->Int)(i:Bool)(r:Int):Od q i r i=r/\Od q i r (!i)=q (!i):=by
 unfold Od
 cases i <;> simp
theorem DP.OI {p p':Pr}{a:List Fl}{q N:Bool->Int}(i:Bool){r:Int}{b:Cn}{l:List Sg}(d:(p'.sd i).c=b)(e:(p'.sd (!i)).c=(p.sd (!i)).c)(f:p'.wire=p.wire++l.map (p.fl i))
  (k1:DI (p.sd (!i)).c b (jb i (a++p.wire)) (jb (!i) (a++p.wire)++l) (q (!i)) (N (!i)))
  (g:DI b (p.sd (!i)).c (jb (!i) (a++p.wire)++l) (jb i (a++p.wire)) r (N i)):DP p' a (Od q i r) N:=by
 obtain⟨h,f2⟩:=kZ q i r;exact DP.of (p:=p) (q:=Od q i r) i d e f (by rw[f2];exact k1) (by rw[h];exact g)
theorem Cl.Og {P:Pr.zc}{p:Pr}{q N:Bool->Int}{a b:Int}(h:Cl P p [] q N a b)(i:Bool)(ht:(p.sd i).c.tries<=11)(S:q i<=(p.sd i).c.fM+1) :
  ((p.sd i).c.st=9/\((p.ki i).sd i).c.reached=true)\/∃z r,Oj z (p.sd i).c ((p.ki i).sd i).c ((p.sd i).c.tick p.now).2 p.now/\(∀o,r<=o->(p.sd i).c.next<=o->z<=o)/\q i<=r/\r<=((p.ki i).sd i).c.fM+1/\Cl P (p.ki i) [] (Od q i r) N (a+1003) (b+1003)/\(p.ki i).sd (!i)=p.sd (!i)/\(p.ki i).wire=p.wire++((p.sd i).c.tick p.now).2.map (p.fl i)/\(p.ki i).now=p.now:=by
 obtain⟨d,-⟩:=h.ns i;obtain⟨I,-⟩:=h.ns (!i);rw[LF]at I;have hi:=h.dp (!i);have T:=h.dp i;rw[LF]at hi;obtain⟨⟨t,U,V⟩,W,X⟩:=kR i ((p.sd i).c.tick p.now).1 ((p.sd i).c.tick p.now).2 h.calm
 rcases Oz d.hv d.fM d.now d.st ht with k | ⟨z,op,-⟩
 ·exact .inl ⟨k.1,(congrArg Cn.reached t).trans k.2.2⟩
 have u:∀j,((p.ki i).sd j).str=(p.sd j).str/\((p.ki i).sd j).closed=(p.sd j).closed:=fun j=>by
  show(((p.ro i _).put i _).sd j).str=_/\(((p.ro i _).put i _).sd j).closed=_;rw[af]
  cases i <;> cases j <;> exact⟨Z,Z⟩
 have e:Fb (p.ki i) N:=⟨fun j=>by rw[(u j).1,(u j).2];exact h.f2.cl j,fun j=>by rw[(u j).1];exact h.f2.le j,h.f2.sm⟩;have l:((p.ki i).sd i).c=((p.sd i).c.tick p.now).1:=t;have m:(p.ki i).sd (!i)=p.sd (!i):=U;have n:(p.ki i).wire=p.wire++((p.sd i).c.tick p.now).2.map (p.fl i):=V;have f:=Pr.PV.ki h.pv h.ft i;have A:=Pr.vw h.ft i;have h3:3<=((p.sd i).c.tick p.now).1.st:=by have:=op.st;have:=d.st;omega
 have a0:=za (p.sd i).c p.now d.st d.hv.ok.st.2
 have hs':∀j,Hs ((p.ki i).sd j).c/\3<=((p.ki i).sd j).c.st:=fun j=>by
  rcases px (i:=i) (j:=j)with rfl | rfl
  ·rw[l];exact⟨op.hs,h3⟩
  rw[m];exact⟨h.hs _,h.st _⟩
 obtain⟨B,J⟩:=Ns.of f A e i (hs' i).1 (hs' i).2;rw[l]at B J
 have C:∀x∈((p.sd i).c.tick p.now).2,x.has=true/\x.syn=false/\x.qa=false:=fun x hx=>by
  rcases op.rv.k with⟨y,-⟩ | ⟨-,-,-,y⟩
  ·rw[y]at hx;cases hx
  exact⟨(y x hx).has,(y x hx).syn,(y x hx).qa⟩
 have K:∀x∈((p.sd i).c.tick p.now).2,GS (Pr.kx P (p.ki i) i) x/\x.Ok:=fun x hx=>by
  have L:p.fl i x∈(p.ki i).wire:=by rw[n];exact Mm _ (Md.2 ⟨x,hx,Z⟩)
  have h1:=(f.w _ L).1;rw[show(!(p.fl i x).dst)=i from LF _]at h1;exact⟨h1,A.wire _ L⟩
 have own:CQ (p.sd i).c.cf.kc (N i) ((p.sd i).c.tick p.now).2:=fun x hx=>by
  have g:=tS (K x hx).1 (C x hx).2.2 (C x hx).2.1 (f.s i).1.sm (e.cl _) (e.le _);have ei:(p.sd i).c.cf.kc=(Pr.kx P (p.ki i) i).kc:=(h.pv.s i).1.kc;rw[ei];exact g
 rcases qI hi T d.hv d.fM d.now d.st ht I.nx d.nn.1 d.nn.2 B.hv J B.nx (fun g=>(tW _ _).symm.trans g) own S with k | ⟨z,r,op,r1,r2,r3,E,F⟩
 ·exact .inl ⟨k.1,(congrArg Cn.reached t).trans k.2.2⟩
 have G:∀j,((p.ki i).sd j).c.cf=(p.sd j).c.cf:=fun j=>by
  rcases px (i:=i) (j:=j)with rfl | rfl
  ·rw[l];exact op.sw.cf
  rw[m]
 refine .inr ⟨z,r,by rw[l];exact op,r1,r2,by rw[l];exact r3,⟨f,A,DP.OI (p:=p) i l (congrArg Sd.c m) n E F,e,X,fun j=>(hs' j).2,fun j=>(hs' j).1,fun g hg=> ?_,fun j=>by rw[G,G];exact h.prt j,fun g hg=>by cases hg⟩,m,n,W⟩;unfold rW;rw[G];rw[n,<-LK]at hg
 rcases LE.1 hg with hg | hg
 ·exact h.pl g hg
 obtain⟨x,hx,rfl⟩:=Md.1 hg;obtain⟨c1,c2,c3⟩:=C x hx;obtain⟨p1,p2⟩:=a0 x hx;have q1:=h.prt i;have M:=h.prt (!i);rw[LF]at M;exact⟨(K x hx).2,⟨c3,c2,c1⟩,p1.trans q1,p2.trans M.symm⟩
theorem Cl.low {P:Pr.zc}{p:Pr}{Q:List Fl}{q N:Bool->Int}{a b:Int}(h:Cl P p Q q N a b)(i:Bool)(d:q i<=(p.sd (!i)).c.expected+1):Cl P p Q (Od q i 1) N a b:=by
 refine { h with dp:=fun j=> ?_ }
 rcases px (i:=i) (j:=j)with rfl | rfl
 ·rw[(kZ q j 1).1];have n:=(h.ns (!j)).1.hv;rw[LF]at n;exact(h.dp j).low d n.fe
 rw[(kZ q i 1).2];exact h.dp (!i)
theorem OJ (q:Bool->Int)(i:Bool)(r s:Int):Od (Od q i r) i s=Od q i s:=by
 funext j
 unfold Od;split <;> rfl
theorem Cl.down {P:Pr.zc}{p:Pr}{Q:List Fl}{q N:Bool->Int}{a b:Int}(h:Cl P p Q q N a b)(i:Bool){r:Int}(hr:∀o,r<=o->o<q i->o<(p.sd i).c.next->o<=N i->False):Cl P p Q (Od q i r) N a b:=by
 refine { h with dp:=fun j=> ?_ }
 rcases px (i:=i) (j:=j)with rfl | rfl
 ·rw[(kZ q j r).1];exact { h.dp j with safe:=fun o a b d=>(Mx o (q j)).elim (fun g=>(hr o a g b d).elim) fun g=>(h.dp j).safe o g b d }
 rw[(kZ q i r).2];exact h.dp (!i)
end Go.Proofs.YtcmncipikdpnbaaGreatDoor
