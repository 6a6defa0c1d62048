import Derived.Test.YtcmncipikdpnbaaGreatDoorTcHcgU
namespace Go.Proofs.YtcmncipikdpnbaaGreatDoor
def Om (N:Bool->Int)(M T:Int)(i:Bool)(p:Pr):Prop:=Oe M p p.wire i T/\Oc (p.sd i).c (M+1) (N i)
theorem Tn.On {P:Pr.zc}{p:Pr}{q N:Bool->Int}(h:Tn P p q N)(j:Bool){i:Bool}{M T:Int}(k:Om N M T i p):Om N M T i (p.mR j):=by
 obtain⟨a,b,r⟩:=h.cl;obtain⟨s,-⟩:=BI p j 1000;have y:=h.all j
 obtain⟨e,t⟩:=r.send j 1000 (h.sx j).p2 (by
  unfold Sd.str;rw[Le,s];omega)
 have f:=t.Oo e k.2 k.1;have l:=(h.send j).1;obtain⟨c3,u⟩:=e.recv j (n:=1000) D (l.sx j).p2;have c:=u.Oo c3 f.2 f.1;have m:=(l.recv j).1;have hs:=(c3.ft.sd j);have o:=m.all j;have d:=hs.last;have a0:=hs.Ei;unfold Pr.mR;dsimp only;split
 ·rename_i g;obtain⟨w,x⟩:=c3.shut j (m.sx j).p2 O;exact x.Oo w c.2 c.1
 exact c
theorem Tn.Ov {P:Pr.zc}{p:Pr}{q N:Bool->Int}(h:Tn P p q N){i:Bool}{M T:Int}(k:Om N M T i p):Om N M T i p.zx.1 :=
 (h.mR false).1.On true (h.On false k)
theorem Tn.Oi {P:Pr.zc}{p:Pr}{q N:Bool->Int}(h:Tn P p q N)(o:P.Ok)(hn:p.now+1<1692){i:Bool}{M T:Int}(r:M<=N i)(B:M<=(p.sd i).c.fM)(k:Om N M T i p):E2 P N p.Ds\/(Tn P p.Ds q N/\Om N M T i p.Ds/\M<=(p.Ds.sd i).c.fM/\p.Ds.now=p.now+1/\(∀j,tQ (p.Ds.sd j).c)/\(T<=p.now->M<=(p.Ds.sd (!i)).c.expected)):=by
 obtain⟨d,s,d1⟩:=h.zx;have l:=h.Ov k;have C:=s.now;have m:=Lz B (s.mn i).fM;unfold Pr.Ds;generalize p.zx.1=p1 at *;obtain⟨a,b,E⟩:=d.cl;have du:=(E.dp i).fM
 have hw:(p1.sd (!i)).c.reached=false->M<=(p1.sd (!i)).c.ann:=fun t=>by
  have G:=(h.par (!i)).1;have e:(p1.sd (!i)).c.expected=(p1.sd (!i)).c.bx.nx:=by unfold Cn.expected;rw[L5 (by rw[t];decide)]
  rcases(d1 (!i)).rd with g | ⟨g1,g2⟩
  ·rw[t]at g;cases g
  omega
 rcases d.tick o (fun i=>(d1 i).rd) O with z | ⟨t2,Ig,fo,-⟩
 ·exact .inl z
 rcases d.Ou o (fun i=>(d1 i).rd) O r m l.2 hw l.1 with z | z
 ·exact .inl z
 refine .inr ⟨t2,z,Lz m (fo.mn i).fM,by rw[fo.now,C],Ig,fun I=> ?_⟩
 rcases l.1 with y | ⟨f,hf,n,F,J,K⟩ | ⟨-,-,n,F⟩
 ·exact Lz y (fo.mn (!i)).exp
 ·obtain⟨L,S,u⟩:=t2.cl;have d2:=u.dp i;have w:=(u.ns (!i)).1.hv;rw[LF]at w
  rcases fo.tk f hf with x | x
  ·cases x
  have A:=x.2.2.1;rw[n,LF]at A;refine qF w d2.fM (Lz m (fo.mn i).fM) r ?_;exact A O _ O O
 have:=d.nd i n;omega
theorem Tn.untied {P:Pr.zc}{p:Pr}{q N:Bool->Int}(h:Tn P p q N)(hs:∀i,tQ (p.sd i).c)(x:P.Ok)(hn:p.now+243<1692)(i:Bool)(S:q i<=(p.sd i).c.fM+1)(lm:Oc (p.sd i).c (q i) (N i)):∃k,k<=242/\(E2 P N (p.seq k)\/(Tn P (p.seq k) (Od q i 1) N/\(∀j,tQ ((p.seq k).sd j).c)/\(p.seq k).now<=p.now+k)):=by
 obtain⟨a,b,c⟩:=h.cl;have F:=(c.dp i).fM
 have z:((∀o,(p.sd i).c.fM<=o->o<q i->o<(p.sd i).c.next->o<=N i->False))->Tn P p (Od q i 1) N:=fun g=>by
  have k:=(c.down i g).low i (by rw[(kZ q i _).1];exact F);rw[OJ]at k;exact { h with cl:=⟨_,_,k⟩ }
 have G:Tn P p (Od q i 1) N->∃k,k<=242/\(E2 P N (p.seq k)\/(Tn P (p.seq k) (Od q i 1) N/\(∀j,tQ ((p.seq k).sd j).c)/\(p.seq k).now<=p.now+k)):=fun g =>
  ⟨0,LW _,.inr ⟨g,hs,by show p.now<=p.now+((0:Nat):Int);omega⟩⟩
 by_cases U:q i<=(p.sd i).c.fM\/(p.sd i).c.next<=(p.sd i).c.fM\/N i<(p.sd i).c.fM
 ·exact G (z fun o a b d e=>by omega)
 have eq:q i=(p.sd i).c.fM+1:=O
 have sx:=h.sx i;have A:=sx.ds (by show 0<(p.sd i).c.next-(p.sd i).c.fM;omega);have I:=sx.ni.dl A;have n:Om N (p.sd i).c.fM (p.now+240) i p:=⟨.inr (.inr ⟨Z,O,A,O⟩),by rw[<-eq];exact lm⟩;have r:(p.sd i).c.fM<=N i:=O
 have B:=L9 (p.sd i).c.fM;obtain⟨M,eM⟩:∃M,M=(p.sd i).c.fM:=⟨_,Z⟩;rw[<-eM]at n r eq;have B:M<=(p.sd i).c.fM:=Mr eM;obtain⟨T,J⟩:∃T,T=p.now+240:=⟨_,Z⟩;rw[<-J]at n
 rcases Classical.em (∃k,k<=242/\E2 P N (p.seq k))with⟨k,g1,g2⟩ | g
 ·exact⟨k,g1,.inl g2⟩
 have run:∀k:Nat,k<=241->Tn P (p.seq k) q N/\Om N M T i (p.seq k)/\M<=((p.seq k).sd i).c.fM/\(p.seq k).now=p.now+k:=by
  intro k
  induction k with
  | zero=>intro _;exact⟨h,n,B,by show p.now=p.now+((0:Nat):Int);omega⟩
  | succ k ih =>
   intro hk;obtain⟨t,s,m,e⟩:=ih O
   rcases t.Oi x O r m s with y | ⟨f,C,E,u,-⟩
   ·exact absurd ⟨k+1,O,y⟩ g
   exact⟨f,C,E,by show(p.seq k).Ds.now=_;rw[u];omega⟩
 obtain⟨w,hw⟩:∃w:Nat,w=241:=⟨_,Z⟩;obtain⟨t,s,m,e⟩:=run w O
 rcases t.Oi x O r m s with y | ⟨f,C,E,u,K,L⟩
 ·exact absurd ⟨w+1,O,y⟩ g
 obtain⟨a,b,c⟩:=f.cl;have l:=c.low i (by have:=L O;rw[eq];omega);exact⟨w+1,O,.inr ⟨{ f with cl:=⟨_,_,l⟩ },K,by show(p.seq w).Ds.now<=_;rw[u];omega⟩⟩
end Go.Proofs.YtcmncipikdpnbaaGreatDoor
