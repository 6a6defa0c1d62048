import Derived.Test.YtcmncipikdpnbaaGreatDoorTcHcdU
namespace Go.Proofs.YtcmncipikdpnbaaGreatDoor
theorem Cl.again {P:Pr.zc}{p:Pr}{q N:Bool->Int}{a b:Int}(g:Cl P p [] q N a b)(i:Bool)(l:Ci (p.sd i).c)(ht:(p.sd i).c.tries<=11)(hd:(p.sd i).c.dl.due p.now=true){M:Int}(u:(p.sd i).c.fM=M)(hx:M<(p.sd i).c.next)(w:M<=N i)(lm:Oc (p.sd i).c (M+1) (N i))(hw:M<=(p.sd (!i)).c.ann)(hr:(p.sd (!i)).c.reached=false) :
  ∃f∈((p.sd i).c.tick p.now).2.map (p.fl i),f.dst=(!i)/\fY (p.sd i).c.cf.kc f.s<=M/\M<fY (p.sd i).c.cf.kc f.s+f.s.s.length/\fY (p.sd i).c.cf.kc f.s+f.s.s.length<=(p.sd (!i)).c.ann+1:=by
 obtain⟨e,x⟩:=g.ns i;have ok:=e.hv.ok;have h:=g.last i;have h3:=e.st;have y:=ok.st;have z:=l.fa;have A:=ok.gi;have m:=e.fM;have n:=ok.fM;have j:=(g.dp i).lim hr;have B:=e.hv.bu;have o:=e.nx;have C:=e.nn;have r:(p.sd i).c.flight=(p.sd i).c.next-(p.sd i).c.fM:=Z;obtain⟨d,d1,d2,d3,d4,d5⟩:=tZ ok e.now (Lc O) ht hd O;obtain⟨k,f2⟩:=jj d (p.sd i).c.fM (min (p.sd i).c.next ((p.sd i).c.fM+(p.sd i).c.gi));rw[d1]at f2;rw[d4]at k
 have hlen:((d.kZ (p.sd i).c.fM (min (p.sd i).c.next ((p.sd i).c.fM+(p.sd i).c.gi))).s.length:Int)=min (min (p.sd i).c.next ((p.sd i).c.fM+(p.sd i).c.gi)) (max (p.sd i).c.fM (p.sd i).c.last)-(p.sd i).c.fM:=by
  rw[f2];have:=iW (c:=(p.sd i).c) (lo:=(p.sd i).c.fM) (hi:=min (p.sd i).c.next ((p.sd i).c.fM+(p.sd i).c.gi)) O O;omega
 have t:fY (p.sd i).c.cf.kc (d.kZ (p.sd i).c.fM (min (p.sd i).c.next ((p.sd i).c.fM+(p.sd i).c.gi)))=(p.sd i).c.fM:=by
  unfold fY;rw[k];exact pp _ O O
 refine⟨_,Md.2 ⟨_,d5,Z⟩,Z,?_⟩;show fY (p.sd i).c.cf.kc (d.kZ (p.sd i).c.fM (min (p.sd i).c.next ((p.sd i).c.fM+(p.sd i).c.gi)))<=M/\M<fY (p.sd i).c.cf.kc (d.kZ (p.sd i).c.fM (min (p.sd i).c.next ((p.sd i).c.fM+(p.sd i).c.gi)))+(d.kZ (p.sd i).c.fM (min (p.sd i).c.next ((p.sd i).c.fM+(p.sd i).c.gi))).s.length/\fY (p.sd i).c.cf.kc (d.kZ (p.sd i).c.fM (min (p.sd i).c.next ((p.sd i).c.fM+(p.sd i).c.gi)))+(d.kZ (p.sd i).c.fM (min (p.sd i).c.next ((p.sd i).c.fM+(p.sd i).c.gi))).s.length<=(p.sd (!i)).c.ann+1;rw[t,hlen];have E:=lm (min (min (p.sd i).c.next ((p.sd i).c.fM+(p.sd i).c.gi)) (max (p.sd i).c.fM (p.sd i).c.last)-1);omega
end Go.Proofs.YtcmncipikdpnbaaGreatDoor
