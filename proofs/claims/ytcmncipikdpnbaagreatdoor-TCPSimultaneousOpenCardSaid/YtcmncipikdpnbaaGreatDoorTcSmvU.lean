import Derived.Test.YtcmncipikdpnbaaGreatDoorUb36
import Derived.Test.YtcmncipikdpnbaaGreatDoorTcSmsU
namespace Go.Proofs.YtcmncipikdpnbaaGreatDoor
def zu (x:Rw)(w:Bool):Cn:=(gE 0 (Cb x w)).1
def nX (x:Rw)(w:Bool):Sg:=(tx 0 (Cb x w)).qI
def qF (x:Rw)(w:Bool):Cn:=(cZ 0 (Cb x w) (nX x (!w))).1
def kZ (x:Rw)(w:Bool):Sg:=(fP 0 (Cb x w) (nX x (!w))).qI
theorem Oh (x:Rw)(w:Bool):AH x w (qF x w):=by
 have h:=zi x (!w);have a:0<=ck x.Dc/\ck x.Dc<=4294967295:=by unfold ck;omega
 have oB:0<=ck x.DZ/\ck x.DZ<=4294967295:=by unfold ck;omega
 cases w
 ·exact⟨Z,Z,Z,(show max (0:Int) (1+(cG x).r true)=1+(cG x).r true from by have h:40<=(cG x).r true/\_:=h;omega),(show max (0:Int) ((cG x).r true)=(cG x).r true from by have h:40<=(cG x).r true/\_:=h;omega),Z,Z,Z,Z,Z,lI oB,Z⟩
 exact⟨Z,Z,Z,(show max (0:Int) (1+(cG x).r false)=1+(cG x).r false from by have h:40<=(cG x).r false/\_:=h;omega),(show max (0:Int) ((cG x).r false)=(cG x).r false from by have h:40<=(cG x).r false/\_:=h;omega),Z,Z,Z,Z,Z,lI a,Z⟩
theorem Dc (x:Rw)(w:Bool):Wt (zu x w) (zu x w):=by cases w <;> exact⟨⟨[],false,Z⟩,.inl Z,Z,Z,Z,⟨_,Z⟩,Z⟩
theorem Dd (x:Rw)(w:Bool):Wt (qF x w) (qF x w):=by cases w <;> exact⟨⟨[],false,Z⟩,.inr Z,Z,Z,Z,⟨_,Z⟩,Z⟩
theorem Wt.any {c0 c:Cn}(h:Wt c0 c0)(y:List UInt8)(s:Bool)(e:c={ c0 with held:=y,shut:=s }):Wt c0 c:=by rw[e];exact h.to y s
theorem OB (x:Rw)(w:Bool):((nX x w).qa=false/\(nX x w).syn=true/\(nX x w).has=false/\(nX x w).fin=false/\(nX x w).s=[])/\(nX x w).sq=aw ((cG x).kc w) 0/\((nX x w).fp=(Cb x w).fp/\(nX x w).tp=(Cb x w).tp):=by
 cases w <;> exact⟨⟨Z,Z,Z,Z,Z⟩,Z,Z,Z⟩
theorem OI (x:Rw)(w:Bool)(T:Int){c:Cn}(h:Wt (zu x w) c)(hs:c.shut=false):∃c',c.receive T (nX x (!w))=(c',[kZ x w])/\Wt (qF x w) c'/\c'.shut=false:=by
 obtain⟨y,s,e⟩:=h.eq;have a:s=false:=by rw[e]at hs;exact hs
 obtain⟨⟨i,f2,f3,-,-⟩,-,f6,j⟩:=OB x (!w);obtain⟨m,k,-⟩:=DG x w;obtain⟨-,f,-⟩:=DG x (!w);rw[LF]at f;have b:c.st=1:=by rw[e];cases w <;> rfl
 have l:c.cf=Cb x w:=by rw[e];cases w <;> rfl
 have d:c.receive T (nX x (!w))=(({ c.meet (nX x (!w))with tries:=0 }:Cn).step T 2 |>.v6,[(({ c.meet (nX x (!w))with tries:=0 }:Cn).step T 2).qI]):=by
  unfold Cn.receive;rw[L5 O,L5 (by rw[f6,j,l,k,f];simp),L7 b];unfold Cn.xs;rw[f3,f2,i,L5 (fun g=>by cases g.1),L5 (fun g=>by cases g.1),L5 (fun g=>by cases g)];dsimp only;rw[L7 Z]
 refine⟨_,d.trans (Prod.ext Z ?_),?_,?_⟩
 ·rw[e];cases w <;> rfl
 ·refine(Dd x w).any y s ?_;rw[e];cases w <;> rfl
 rw[e,a];cases w <;> rfl
structure Of (x:Rw)(w:Bool)(s:Sg):Prop where
 f:s.qa=false/\s.syn=false/\s.has=true
 fin:s.fin=false
 d:s.s=[]
 sq:s.sq=aw ((cG x).kc w) 1
 ak:s.ak=aw ((cG x).kc (!w)) 1
 win:s.win=(cG x).r w
 pt:s.fp=(Cb x w).fp/\s.tp=(Cb x w).tp
theorem OJ (x:Rw)(w:Bool):((kZ x w).qa=false/\(kZ x w).syn=true/\(kZ x w).has=true/\(kZ x w).fin=false/\(kZ x w).s=[])/\(kZ x w).sq=aw ((cG x).kc w) 0/\((kZ x w).fp=(Cb x w).fp/\(kZ x w).tp=(Cb x w).tp):=by
 cases w <;> exact⟨⟨Z,Z,Z,Z,Z⟩,Z,Z,Z⟩
theorem AD (x:Rw)(w:Bool)(T:Int){c:Cn}(h:Wt (qF x w) c):∃s,c.receive T (kZ x (!w))=(c,[s])/\Of x w s:=by
 have k:=h.wx (Oh x w);obtain⟨g1,B,C,m,-,-,-⟩:=h.f;obtain⟨⟨n,f2,f3,e,o⟩,f6,p,q⟩:=OJ x (!w);obtain⟨t,u,-⟩:=DG x w;obtain⟨-,i,-⟩:=DG x (!w);rw[LF]at i;have E:=zi x w;have hi:=eK x w;have F:=eK x (!w);have nx:c.bx.nx=0:=by rw[k.bx];rfl
 have y:c.reached=false:=by unfold Cn.reached;rw[k.en];rfl
 have ex:c.expected=0:=by unfold Cn.expected;rw[y,nx];rfl
 have a:=k.st
 have off:c.offset (kZ x (!w)).sq= -1:=by
  unfold Cn.offset;rw[k.tq,f6];unfold aE aw;omega
 have j:aj (kZ x (!w))=1:=by unfold aj;rw[o,f2,e];rfl
 have z:c.accepts (-1) 1=false:=by
  unfold Cn.accepts;rw[L5 O];split
  ·rfl
  rw[L5 O];exact Lf O
 have mo:c.most=(cG x).r w:=by
  unfold Cn.most;rw[k.bx];show(0:Int)+((List.replicate ((cG x).r w).toNat (0:UInt8)).length:Int)=_;rw[Mt];omega
 have l:c.raised c.gi=c.ann:=by
  unfold Cn.raised Cn.tE;rw[mo,k.ann,Lf O,L5 D,nx];omega
 have b:c.next=1:=by unfold Cn.next;rw[k.sc]
 have eq:c.receive T (kZ x (!w))=(c,[c.qE dH c.next]):=by
  unfold Cn.receive;rw[L5 O,L5 (by rw[p,q,k.cf,u,i];simp),L5 O];unfold Cn.ys;dsimp only;rw[off,j,z,n,L5 FE,L5 FE,L7 Z];unfold Cn.stray;dsimp only;have hy:bU c.st=false:=by rw[a];rfl
  rw[hy,j,e,L7 (show(0:Int)<1 by decide),L5 (show ¬(false=true/\(kZ x (!w)).has=true/\(kZ x (!w)).syn=false/\c.fM<=aE (kZ x (!w)).ak c.cf.kc/\aE (kZ x (!w)).ak c.cf.kc<=c.next)from fun g=>by cases g.1),L5 (fun g=>by cases g.2)];have hs:ae c.gB.st=false:=by show ae c.st=false;rw[a];rfl
  have ep:c.gB.qD []=(c,[c.qE dH c.next]):=by
   unfold Cn.qD;rw[L7 (show c.gB.pend=2 from Z)]
   have d:c.gB.qG false=c:=by
    show({ c with pend:=0,ann:=c.raised c.gi }:Cn)=c;rw[l,<-k.pend]
   rw[d];rfl
  unfold Cn.push;rw[L5 (by show c.st≠0;omega),hs];show((c.gB.qD []).1.lp T,(c.gB.qD []).2)=_;rw[ep]
  have A:c.lp T=c:=by
   unfold Cn.lp;rw[L5 O,L7 (by rw[m];rfl)]
  show(c.lp T,_)=_;rw[A]
 refine⟨_,eq,?_⟩
 have d:c.number c.expected=aw ((cG x).kc (!w)) 1:=by
  unfold Cn.number;rw[ex,k.tq];rfl
 unfold Cn.qE;rw[L5 D];refine⟨⟨Z,Z,Z⟩,Z,Z,?_,d,?_,?_⟩
 ·show aw c.cf.kc c.next=_;rw[k.cf,t,b]
 ·show c.raised c.gi-c.bx.nx=_;rw[l,nx,k.ann];omega
 rw[<-k.cf];exact⟨Z,Z⟩
theorem Hw.recv {c0:Bool->Cn}{W:List Fl}{T:Int}{p:Pr}(h:Hw c0 W T p){f:Fl}{c' w0:Cn}{l:List Sg}(e:(p.sd f.dst).c.receive p.now f.s=(c',l))(hw:Wt w0 c')(hs:c'.shut=(p.sd f.dst).c.shut)(h1:c'.st≠1):Hw (fun j=>if j=f.dst then w0 else c0 j) (W++l.map (p.fl f.dst)) T (p.ke f):=by
 have m:p.ke f=(p.ro f.dst c').put f.dst l:=by unfold Pr.ke;rw[e]
 obtain⟨⟨a,d,n⟩,o,q⟩:=kR (p:=p) f.dst c' l h.calm
 have k:∀j,((p.ke f).sd j).got=(p.sd j).got/\((p.ke f).sd j).fin=(p.sd j).fin/\((p.ke f).sd j).closed=(p.sd j).closed:=fun j=>by
  rw[m,af]
  cases f.dst <;> cases j <;> exact⟨Z,Z,Z⟩
 rw[<-m]at a d n o q;refine⟨fun j=> ?_,by rw[n,h.wire],o.trans h.now,q,fun j=>(k j).1.trans (h.got j),fun j=>(k j).2.1.trans (h.fin j),fun j g=> ?_,fun j g=> ?_⟩
 ·rcases zl (w:=f.dst) (i:=j)with rfl | rfl
  ·rw[L7 Z,a];exact hw
  rw[L5 (by cases f.dst <;> decide),d];exact h.b _
 ·rcases zl (w:=f.dst) (i:=j)with rfl | rfl
  ·rw[a]at g;exact absurd g h1
  rw[d]at g|-;exact h.sh _ g
 rw[(k j).2.2]at g
 rcases zl (w:=f.dst) (i:=j)with rfl | rfl
 ·rw[a,hs];exact h.cs _ g
 rw[d];exact h.cs _ g
theorem Hx.Oj {x:Rw}{N:Bool->Int}{w:Bool}{w0:Cn}{T:Int}{p:Pr}{n:Int}{a:Fl}(h:Hx x N w w0 T p)(t:AH x w w0)(A:T<=9)(rd:∀i,Rd (cG x) (pz w (T+1) p) i)(g:Ga (cG x) N (Oc a p) n)(b:a.dst= !w)(ho:Og (cG x) a.dst a.s)(u:a.s.fp=(p.sd (!w)).c.cf.tp/\a.s.tp=(p.sd (!w)).c.cf.fp)(l:a.held=false/\a.due<=p.now+1):E2 (cG x) N (Oc a p).tick\/(Tn (cG x) (Oc a p).tick (fun _=>1) N/\∀i,tQ ((Oc a p).tick.sd i).c):=by
 obtain⟨f,W,m,o,y⟩:=h.hd;have B:=h.now
 have hw:∀k∈p.wire,k.held=false/\k.due<=p.now+1:=fun k e=>by
  have:=h.tn.w k (by rw[(O1 w _ p).1];exact e);rw[(O1 w _ p).2.1]at this;exact this
 have z:=q1z (T:=T+1) (S:=[a]) (fun k e=>by rw[Lu.1 e];exact⟨b,l⟩) hw m o (h.first t m o y);have q:a∈(Oc a p).wire:=M4;have r:=g.al.pv.w a q;have j:=g.al.run.1.wire a q;rw[OA,OA]at r;have d:=h.tn.Oj (eK x) rd (by rw[(O1 w _ p).2.1];omega) ho (by rw[b,(O0 w _ p).1];exact u) j (by rw[O3,O3];exact r) (p':={ (pz w (T+1) p)with wire:=[a]++p.wire }) (by rw[(O1 w _ p).1];rfl) (by rw[(O1 w _ p).2.1];exact l);rw[z]at d;exact d
end Go.Proofs.YtcmncipikdpnbaaGreatDoor
