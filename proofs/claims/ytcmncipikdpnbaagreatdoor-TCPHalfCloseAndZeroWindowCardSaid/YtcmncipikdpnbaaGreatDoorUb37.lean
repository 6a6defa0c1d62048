import Derived.Test.YtcmncipikdpnbaaGreatDoorUb35
namespace Go.Proofs.YtcmncipikdpnbaaGreatDoor
section
set_option maxHeartbeats 8000000
set_option maxRecDepth 100000
open Go.RowKit Go.Shelf
def Pr.mid (p:Pr)(i:Bool):Pr:=(p.send i 1000).recv i 1000
def Pr.dn (p:Pr)(i:Bool):Bool:=Pr.Dn ((p.mid i).sd i) ((p.mid i).sd (!i))
def DU (p:Pr):Nat->Pr
 | 0=>p
 | 1=>p.mR false
 | _=>p.zx.1
def tg (p:Pr):Nat->Int
 | 0=>0
 | 1=>bI (p.dn false)
 | _=>bI (p.dn false)+bI ((p.mR false).dn true)
theorem BL (p:Pr):p.zx.2=(p.dn false&&(p.mR false).dn true):=rfl
theorem CH {P:Pr.zc}{p:Pr}{n:Int}(h:Pr.Al P p n)(i:Bool):Pr.Al P (p.mid i) (n+2):=by
 have:=(h.send i 1000).recv i (k:=1000) D
 rwa [show n+1+1=n+2 by omega]at this
theorem kY {P:Pr.zc}{p:Pr}{n:Int}(h:Pr.Al P p n)(i:Bool):Pr.Al P (p.mR i) (n+3):=by
 have a:=CH h i;unfold Pr.mR;dsimp only;split
 ·have:=a.shut i
  rwa [show n+2+1=n+3 by omega]at this
 exact a.mono O
theorem CI {P:Pr.zc}(a:P.Ok){p:Pr}{n:Int}(h:Pr.Al P p n)(h0:0<=n):∀k:Nat,n+7*k<=14000->Pr.Al P (p.seq k) (n+7*k):=by
 intro k
 induction k with
 | zero=>intro _;rw[show n+7*((0:Nat):Int)=n by omega];exact h
 | succ k d =>
  intro e;have f:=d O;have:=(kY (kY f false) true).tkz O O (by rw[mR_now,mR_now];have:=f.run.2;omega) a;rw[show n+7*((k+1:Nat):Int)=n+7*k+3+3+1 by omega];exact this
theorem zn (N:Nat) (t:Ft) (P:Pr.zc) (p:Pr) (n:Int) (J M:Nat) (w:World) (h:tT N t p w) (hA:Pr.Al P p n) (hP:P.Ok) (h0:0<=n) (hn:n+7*J+7<=14000) (hJ:J<M) (hM:M<=1000000) (he:(p.seq J).zx.2=true) (b0:∀k,k<J->(p.seq k).zx.2=false) :
  Calls Tryz.prog 11 #[t.B,.int .i64 M] w fun e w'=>e= .returned (.int .i64 J)/\B6 N t w (p.seq J).zx.1 w':=by
 have bl:=H h;have HP:=H hP;have b9:=H (show ∀k:Nat,k<=J->Pr.Al P (p.seq k) (n+7*k)from fun k hk=>CI hP hA h0 k O);have HE:=H he;have bn:=H b0;clear h hP hA he b0
 go_enter Tryz.func11,Tryz.ntmps11
 go_wp2_with fail
 go_loopg [5] (J+1) (fun g iv wr=>∃(k:Nat) (tk:Ft),iv=((k:Int):Y)/\g+k=J+1/\k<=J/\pE N t w tk (p.seq k) wr)
 case atStart=>exact⟨0,t,Z,O,O,pE.start bl.o⟩
 case round =>
  obtain⟨k,tk,rfl,ch,bo,b1⟩:=hrel;have ci:(k:Int)<(M:Int):=O
  have ax:=H b1;have ag:=H (b9.o k bo);have b2:0<=n+7*(k:Int)/\n+7*(k:Int)+7<=14000:=O
  clear b1;obtain⟨q,hq⟩:∃q,q=p.seq k:=⟨_,Z⟩;have HQ:=H hq;rw[<-hq]at ax ag;clear hq;obtain⟨m,hm⟩:∃m,m=n+7*(k:Int):=⟨_,Z⟩;rw[<-hm]at ag b2;clear hm;obtain⟨bu,c5⟩:=b2;go_wp2_with fail
  go_loopg [6,7] 2 (fun g dv iv wr=>∃(j:Nat) (tj:Ft),dv=(tg q j:Y)/\iv=((j:Int):Y)/\g+j=2/\pE N t w tj (DU q j) wr)
  case atStart=>exact⟨0,tk,Z,Z,Z,ax.o⟩
  case round =>
   obtain⟨j,tj,rfl,rfl,cl,a6⟩:=hrel;have bv:j=0\/j=1\/j=2:=O
   clear ax
   rcases bv with c0 | c1 | c2
   ·subst c0;have d:=H a6;clear a6;have f:=ag;obtain⟨u,hu⟩:∃u,u=q:=⟨_,Z⟩;have T:=H hu;replace d:=H (show pE N t w tj u wr from by rw[T.o];exact d.o);rw[<-hu]at f;clear hu;go_wp2_with fail;show Calls _ _ #[_,(bI false),_] _ _;have z:=j8 N tj _ false 1000 _ _ _ d.pa f.run.1 (f.Di O).1 (f.Di O).2 f.ml D;rw[d.eB]at z;refine z.mono ?_;rintro e w3⟨rfl,t3,L⟩;replace d:=H (d.trans L);clear z L;replace f:=H (f.send false 1000);go_wp2_with fail;show Calls _ _ #[_,(bI false),_] _ _;have z:=eF N t3 _ false 1000 _ _ _ d.pa f.run.1 (f.Di O).1 (f.Di O).2 f.ml D (L8 (f.got false) D);rw[d.eB]at z;refine z.mono ?_;rintro e A⟨rfl,x,L⟩;replace d:=H (d.trans L);clear z L;replace f:=H (f.recv false (k:=1000) D);replace d:=H (show pE N t w x (u.mid false) A from d.o);replace f:=H (show Pr.Al P (u.mid false) _ from f.o);have I:=H (show u.mR false=if(u.mid false).a.sent=((u.mid false).a.all.length:Int)/\(u.mid false).a.c.st≠1 then(u.mid false).shut false else u.mid false from Z);have E:=H (show u.dn false=((u.mid false).a.fin&&decide ((u.mid false).a.got.length=(u.mid false).b.all.length))from Z);have U:=H (show ∀r,r=u.mid false\/r=(u.mid false).shut false->r.b.all=(u.mid false).b.all from fun r hr=>by rcases hr with rfl | rfl;rfl;exact(kW (u.mid false) false true).2);generalize u.mid false=v at d f I E U;have y0:A.cell? t.B=some (x.fa.C:Y):=d.cell 0 _ Z;have y1:A.cell? ⟨t.B,1,none⟩=some (.string ⟨v.a.all.toArray⟩):=d.cell 1 _ Z;have y2:A.cell? ⟨t.B,2,none⟩=some (v.a.sent:Y):=d.cell 2 _ Z;have y3:A.cell? ⟨t.B,3,none⟩=some (.string ⟨v.a.got.toArray⟩):=d.cell 3 _ Z;have y4:A.cell? ⟨t.B,4,none⟩=some (v.a.fin:Y):=d.cell 4 _ Z;have y5:A.cell? ⟨t.B,5,none⟩=some (v.a.closed:Y):=d.cell 5 _ Z
    go_upto_region 11 with fail
    clear y0 y1 y2 y3 y4 y5;change Code.wp _ _ _ _ (A.alloc (.cells (pm x.fa v.a).toArray 34));replace d:=H (Ps.new d.o x.fa v.a);generalize hF:A.heap.size=F at d|-;generalize A.alloc (.cells (pm x.fa v.a).toArray 34)=w5 at d|-;clear hF;have x1:=d.row.cell 1 _ Z;have x2:=d.row.cell 2 _ Z;have hz:(⟨v.a.all.toArray⟩:ByteArray).size=v.a.all.length:=IL
    by_cases l:v.a.sent=(v.a.all.length:Int)
    focus
     have K:(v.a.sent==(v.a.all.length:Int))=true:=Mb.2 l;have HX:=H l;clear l;have x0:=d.row.cell 0 _ Z;go_wp2_with fail;refine(bT x.fa v.a.c _ d.st.pa.a).mono ?_;rintro e wq⟨rfl,rfl⟩;by_cases s:v.a.c.st=1
     focus
      have V:(v.a.c.st != 1)=false:=by rw[s];rfl
      have HY:=H s;clear s;have aC:=H (show ∃y,Ps N t w F x.fa v.a y (u.mR false) w5 from⟨x,by rw[I.o,L5 (fun g=>g.2 HY.o)];exact d.o⟩);have a5:=H (show(u.mR false).b.all=v.b.all from U.o _ Jt);clear d f I U
      go_upto_region 13 with fail
      generalize w5=wc at aC|-;clear K V HX HY x0 x1 x2 hz
     rotate_left 1
     focus
      have V:(v.a.c.st != 1)=true:=JB
      have HY:=H s;clear s;go_wp2_with fail;show Calls _ _ #[_,(bI false)] _ _;have z:=iK N x _ false _ _ _ d.st.pa f.run.1 (f.Di O).1 (f.Di O).2 f.ml;rw[d.st.eB]at z;refine z.mono ?_;rintro e w6⟨rfl,t5,L⟩;replace d:=H (d.step L);clear z L x0 x1 x2;have aC:=H (show ∃y,Ps N t w F x.fa v.a y (u.mR false) w6 from⟨t5,by rw[I.o,L7 ⟨HX.o,HY.o⟩];exact d.o⟩);have a5:=H (show(u.mR false).b.all=v.b.all from U.o _ Jt);clear d f I U
      go_upto_region 13 with fail
      generalize w6=wc at aC|-;clear K V HX HY hz
    rotate_left 2
    focus
     have K:(v.a.sent==(v.a.all.length:Int))=false:=Ll.2 l;have HX:=H l;clear l;have aC:=H (show ∃y,Ps N t w F x.fa v.a y (u.mR false) w5 from⟨x,by rw[I.o,L5 (fun g=>HX.o g.1)];exact d.o⟩);have a5:=H (show(u.mR false).b.all=v.b.all from U.o _ Jt);clear d f I U
     go_upto_region 13 with fail
     generalize w5=wc at aC|-;clear K HX x1 x2 hz
    all_goals
     obtain⟨y,a7⟩:=aC.o;have d:=H a7;clear a7 aC;have c3:(⟨v.a.got.toArray⟩:ByteArray).size=v.a.got.length:=IL
     have c4:(⟨v.b.all.toArray⟩:ByteArray).size=v.b.all.length:=IL
     by_cases i:v.a.fin=true
     ·have a9:=H i;rw[i]at E;clear i;by_cases hg:v.a.got.length=v.b.all.length
      ·have hd:decide (v.a.got.length=v.b.all.length)=true:=Lc hg;rw[hd]at E;clear hd;refine az (fun W:World=>W.cell? ⟨F,4,none⟩=some (true:Y)/\W.cell? ⟨F,3,none⟩=some (.string ⟨v.a.got.toArray⟩)/\W.cell? ⟨t.B,7,none⟩=some (.string ⟨v.b.all.toArray⟩)) (⟨(d.row.cell 4 v.a.fin Z).trans (by rw[a9.o]),d.row.cell 3 _ Z,(d.st.cell 7 (.string ⟨(u.mR false).b.all.toArray⟩) Z).trans (by rw[a5.o])⟩) fun S=>?_;replace d:=H (d.oz (L3 _ _).drew);generalize wc.drew=wd at d S|-;refine aA 0 1 2 3 ?_;refine aA 4 5 6 7 ?_;refine aQ 8 (v:=.int .i64 1) ?_ (hy:=K8);refine aA 9 10 11 12 ?_;refine aA 13 14 15 16 ?_;refine ay ?_ _;clear S
       skip
       go_wp2_with fail
       go_roundg (gk-1)
       case measure=>omega
       case rel=>exact⟨1,y,by have e:tg q 1=bI true:=Ks;rw[e];have h1:bI true=1:=Z;have h2:bI false=0:=Z;have h3:tg q 0=0:=Z;first | rfl | (congr 1;(try unfold wrap64);omega),IP,O,Kv⟩
      ·have hd:decide (v.a.got.length=v.b.all.length)=false:=Lf hg;rw[hd]at E;clear hd;refine az (fun W:World=>W.cell? ⟨F,4,none⟩=some (true:Y)/\W.cell? ⟨F,3,none⟩=some (.string ⟨v.a.got.toArray⟩)/\W.cell? ⟨t.B,7,none⟩=some (.string ⟨v.b.all.toArray⟩)) (⟨(d.row.cell 4 v.a.fin Z).trans (by rw[a9.o]),d.row.cell 3 _ Z,(d.st.cell 7 (.string ⟨(u.mR false).b.all.toArray⟩) Z).trans (by rw[a5.o])⟩) fun S=>?_;replace d:=H (d.oz (L3 _ _).drew);generalize wc.drew=wd at d S|-;refine aA 0 1 2 3 ?_;refine aA 4 5 6 7 ?_;refine aQ 8 (v:=.int .i64 1) ?_ (hy:=K8);refine aA 9 10 11 12 ?_;refine aA 13 14 15 16 ?_;refine ay ?_ _;clear S
       skip
       go_wp2_with fail
       go_roundg (gk-1)
       case measure=>omega
       case rel=>exact⟨1,y,L1,IP,O,Kv⟩
     ·replace i:v.a.fin=false:=by simpa using i
      have a9:=H i;rw[i]at E;clear i;refine az (fun W:World=>W.cell? ⟨F,4,none⟩=some (false:Y)/\W.cell? ⟨F,3,none⟩=some (.string ⟨v.a.got.toArray⟩)/\W.cell? ⟨t.B,7,none⟩=some (.string ⟨v.b.all.toArray⟩)) (⟨(d.row.cell 4 v.a.fin Z).trans (by rw[a9.o]),d.row.cell 3 _ Z,(d.st.cell 7 (.string ⟨(u.mR false).b.all.toArray⟩) Z).trans (by rw[a5.o])⟩) fun S=>?_;replace d:=H (d.oz (L3 _ _).drew);generalize wc.drew=wd at d S|-;refine aM 0 1 ?_;refine aQ 2 ?_;refine aU 3 ?_;refine aU 4 ?_;refine aU 5 ?_;refine aU 6 ?_;refine aU 7 ?_;refine aU 8 ?_;refine aU 9 ?_;refine aU 10 ?_;refine aU 11 ?_;refine aU 12 ?_;refine aU 13 ?_;refine aU 14 ?_;refine aU 15 ?_;refine aQ 16 ?_;refine ay ?_ _;clear S;go_wp2_with fail
      go_roundg (gk-1)
      case measure=>omega
      case rel=>exact⟨1,y,L1,IP,O,Kv⟩
   ·subst c1;have d:=H a6;clear a6;have f:=H (kY ag.o false);obtain⟨u,hu⟩:∃u,u=q.mR false:=⟨_,Z⟩;have T:=H hu;replace d:=H (show pE N t w tj u wr from by rw[T.o];exact d.o);rw[<-hu]at f;replace bu:0<=m+3:=by omega
    clear hu;go_wp2_with fail;show Calls _ _ #[_,(bI true),_] _ _;have z:=j8 N tj _ true 1000 _ _ _ d.pa f.run.1 (f.Di O).1 (f.Di O).2 f.ml D;rw[d.eB]at z;refine z.mono ?_;rintro e w3⟨rfl,t3,L⟩;replace d:=H (d.trans L);clear z L;replace f:=H (f.send true 1000);go_wp2_with fail;show Calls _ _ #[_,(bI true),_] _ _;have z:=eF N t3 _ true 1000 _ _ _ d.pa f.run.1 (f.Di O).1 (f.Di O).2 f.ml D (L8 (f.got true) D);rw[d.eB]at z;refine z.mono ?_;rintro e A⟨rfl,x,L⟩;replace d:=H (d.trans L);clear z L;replace f:=H (f.recv true (k:=1000) D);replace d:=H (show pE N t w x (u.mid true) A from d.o);replace f:=H (show Pr.Al P (u.mid true) _ from f.o);have I:=H (show u.mR true=if(u.mid true).b.sent=((u.mid true).b.all.length:Int)/\(u.mid true).b.c.st≠1 then(u.mid true).shut true else u.mid true from Z);have E:=H (show u.dn true=((u.mid true).b.fin&&decide ((u.mid true).b.got.length=(u.mid true).a.all.length))from Z);have U:=H (show ∀r,r=u.mid true\/r=(u.mid true).shut true->r.a.all=(u.mid true).a.all from fun r hr=>by rcases hr with rfl | rfl;rfl;exact(kW (u.mid true) true false).2);generalize u.mid true=v at d f I E U;have y0:A.cell? ⟨t.B,6,none⟩=some (x.fb.C:Y):=d.cell 6 _ Z;have y1:A.cell? ⟨t.B,7,none⟩=some (.string ⟨v.b.all.toArray⟩):=d.cell 7 _ Z;have y2:A.cell? ⟨t.B,8,none⟩=some (v.b.sent:Y):=d.cell 8 _ Z;have y3:A.cell? ⟨t.B,9,none⟩=some (.string ⟨v.b.got.toArray⟩):=d.cell 9 _ Z;have y4:A.cell? ⟨t.B,10,none⟩=some (v.b.fin:Y):=d.cell 10 _ Z;have y5:A.cell? ⟨t.B,11,none⟩=some (v.b.closed:Y):=d.cell 11 _ Z
    go_upto_region 11 with fail
    clear y0 y1 y2 y3 y4 y5;change Code.wp _ _ _ _ (A.alloc (.cells (pm x.fb v.b).toArray 34));replace d:=H (Ps.new d.o x.fb v.b);generalize hF:A.heap.size=F at d|-;generalize A.alloc (.cells (pm x.fb v.b).toArray 34)=w5 at d|-;clear hF;have x1:=d.row.cell 1 _ Z;have x2:=d.row.cell 2 _ Z;have hz:(⟨v.b.all.toArray⟩:ByteArray).size=v.b.all.length:=IL
    by_cases l:v.b.sent=(v.b.all.length:Int)
    focus
     have K:(v.b.sent==(v.b.all.length:Int))=true:=Mb.2 l;have HX:=H l;clear l;have x0:=d.row.cell 0 _ Z;go_wp2_with fail;refine(bT x.fb v.b.c _ d.st.pa.b).mono ?_;rintro e wq⟨rfl,rfl⟩;by_cases s:v.b.c.st=1
     focus
      have V:(v.b.c.st != 1)=false:=by rw[s];rfl
      have HY:=H s;clear s;have aC:=H (show ∃y,Ps N t w F x.fb v.b y (u.mR true) w5 from⟨x,by rw[I.o,L5 (fun g=>g.2 HY.o)];exact d.o⟩);have a5:=H (show(u.mR true).a.all=v.a.all from U.o _ Jt);clear d f I U
      go_upto_region 13 with fail
      generalize w5=wc at aC|-;clear K V HX HY x0 x1 x2 hz
     rotate_left 1
     focus
      have V:(v.b.c.st != 1)=true:=JB
      have HY:=H s;clear s;go_wp2_with fail;show Calls _ _ #[_,(bI true)] _ _;have z:=iK N x _ true _ _ _ d.st.pa f.run.1 (f.Di O).1 (f.Di O).2 f.ml;rw[d.st.eB]at z;refine z.mono ?_;rintro e w6⟨rfl,t5,L⟩;replace d:=H (d.step L);clear z L x0 x1 x2;have aC:=H (show ∃y,Ps N t w F x.fb v.b y (u.mR true) w6 from⟨t5,by rw[I.o,L7 ⟨HX.o,HY.o⟩];exact d.o⟩);have a5:=H (show(u.mR true).a.all=v.a.all from U.o _ Jt);clear d f I U
      go_upto_region 13 with fail
      generalize w6=wc at aC|-;clear K V HX HY hz
    rotate_left 2
    focus
     have K:(v.b.sent==(v.b.all.length:Int))=false:=Ll.2 l;have HX:=H l;clear l;have aC:=H (show ∃y,Ps N t w F x.fb v.b y (u.mR true) w5 from⟨x,by rw[I.o,L5 (fun g=>HX.o g.1)];exact d.o⟩);have a5:=H (show(u.mR true).a.all=v.a.all from U.o _ Jt);clear d f I U
     go_upto_region 13 with fail
     generalize w5=wc at aC|-;clear K HX x1 x2 hz
    all_goals
     obtain⟨y,a7⟩:=aC.o;have d:=H a7;clear a7 aC;have c3:(⟨v.b.got.toArray⟩:ByteArray).size=v.b.got.length:=IL
     have c4:(⟨v.a.all.toArray⟩:ByteArray).size=v.a.all.length:=IL
     by_cases i:v.b.fin=true
     ·have a9:=H i;rw[i]at E;clear i;by_cases hg:v.b.got.length=v.a.all.length
      ·have hd:decide (v.b.got.length=v.a.all.length)=true:=Lc hg;rw[hd]at E;clear hd;refine az (fun W:World=>W.cell? ⟨F,4,none⟩=some (true:Y)/\W.cell? ⟨F,3,none⟩=some (.string ⟨v.b.got.toArray⟩)/\W.cell? ⟨t.B,1,none⟩=some (.string ⟨v.a.all.toArray⟩)) (⟨(d.row.cell 4 v.b.fin Z).trans (by rw[a9.o]),d.row.cell 3 _ Z,(d.st.cell 1 (.string ⟨(u.mR true).a.all.toArray⟩) Z).trans (by rw[a5.o])⟩) fun S=>?_;replace d:=H (d.oz (L3 _ _).drew);generalize wc.drew=wd at d S|-;refine aA 0 1 2 3 ?_;refine aA 4 5 6 7 ?_;refine aQ 8 (v:=.int .i64 0) ?_ (hy:=K8);refine aA 9 10 11 12 ?_;refine aA 13 14 15 16 ?_;refine ay ?_ _;clear S
       skip
       go_wp2_with fail
       go_roundg (gk-1)
       case measure=>omega
       case rel=>exact⟨2,y,by have e:tg q 2=bI (q.dn false)+bI true:=Kt;rw[e];have h0:bI (q.dn false)=0\/bI (q.dn false)=1:=Ku;have h1:bI true=1:=Z;have h2:bI false=0:=Z;have h3:tg q 1=bI (q.dn false):=Z;first | rfl | (congr 1;(try unfold wrap64);omega),IP,O,Kw⟩
      ·have hd:decide (v.b.got.length=v.a.all.length)=false:=Lf hg;rw[hd]at E;clear hd;refine az (fun W:World=>W.cell? ⟨F,4,none⟩=some (true:Y)/\W.cell? ⟨F,3,none⟩=some (.string ⟨v.b.got.toArray⟩)/\W.cell? ⟨t.B,1,none⟩=some (.string ⟨v.a.all.toArray⟩)) (⟨(d.row.cell 4 v.b.fin Z).trans (by rw[a9.o]),d.row.cell 3 _ Z,(d.st.cell 1 (.string ⟨(u.mR true).a.all.toArray⟩) Z).trans (by rw[a5.o])⟩) fun S=>?_;replace d:=H (d.oz (L3 _ _).drew);generalize wc.drew=wd at d S|-;refine aA 0 1 2 3 ?_;refine aA 4 5 6 7 ?_;refine aQ 8 (v:=.int .i64 0) ?_ (hy:=K8);refine aA 9 10 11 12 ?_;refine aA 13 14 15 16 ?_;refine ay ?_ _;clear S
       skip
       go_wp2_with fail
       go_roundg (gk-1)
       case measure=>omega
       case rel=>exact⟨2,y,L2,IP,O,Kw⟩
     ·replace i:v.b.fin=false:=by simpa using i
      have a9:=H i;rw[i]at E;clear i;refine az (fun W:World=>W.cell? ⟨F,4,none⟩=some (false:Y)/\W.cell? ⟨F,3,none⟩=some (.string ⟨v.b.got.toArray⟩)/\W.cell? ⟨t.B,1,none⟩=some (.string ⟨v.a.all.toArray⟩)) (⟨(d.row.cell 4 v.b.fin Z).trans (by rw[a9.o]),d.row.cell 3 _ Z,(d.st.cell 1 (.string ⟨(u.mR true).a.all.toArray⟩) Z).trans (by rw[a5.o])⟩) fun S=>?_;replace d:=H (d.oz (L3 _ _).drew);generalize wc.drew=wd at d S|-;refine aM 0 1 ?_;refine aQ 2 ?_;refine aU 3 ?_;refine aU 4 ?_;refine aU 5 ?_;refine aU 6 ?_;refine aU 7 ?_;refine aU 8 ?_;refine aU 9 ?_;refine aU 10 ?_;refine aU 11 ?_;refine aU 12 ?_;refine aU 13 ?_;refine aU 14 ?_;refine aU 15 ?_;refine aQ 16 ?_;refine ay ?_ _;clear S;go_wp2_with fail
      go_roundg (gk-1)
      case measure=>omega
      case rel=>exact⟨2,y,L2,IP,O,Kw⟩
   subst c2;have d:=H a6;clear a6;replace d:=H (show pE N t w tj q.zx.1 wr from d.o);have f:=H (kY (kY ag.o false) true);replace f:=H (show Pr.Al P q.zx.1 _ from f.o);have b6:=H (BL q);have HK:=H (show tg q 2=bI (q.dn false)+bI ((q.mR false).dn true)from Z);generalize tg q 2=dv at HK|-;by_cases b3:k=J
   ·have cn:=H b3;subst b3;have b4:dv=2:=by rw[HK.o];have h1:=HE.o;rw[<-HQ.o,b6.o,Ly]at h1;rw[h1.1,h1.2];rfl
    subst b4;go_wp2;go_ret;exact⟨Z,tj,by rw[<-HQ.o];exact d.o⟩
   have b4:(dv==2)=false:=by rw[HK.o];have h1:=bn.o k O;rw[<-HQ.o,b6.o]at h1;cases h2:q.dn false <;> cases h3:(q.mR false).dn true <;> first | rfl | (rw[h2,h3]at h1;cases h1)
   clear HK b6;go_wp2_with fail;have b7:=wV N tj q.zx.1 wr _ _ d.pa f.run.1 f.v.1 f.v.2.1;rw[d.eB]at b7;refine b7.mono ?_;rintro e A⟨rfl,b5⟩;replace d:=H (d.oz b5);clear b5 b7;go_wp2_with fail;have b8:=ct N tj q.zx.1 A _ _ d.pa f.run.1 (f.Di O).1 (f.Di O).2 f.ml (by have:=f.run.2;omega);rw[d.eB]at b8;refine b8.mono ?_;rintro e w5⟨rfl,t5,k5⟩;replace d:=H (d.trans k5);clear b8 k5;go_wp2_with fail
   go_roundg (J-k)
   case measure=>omega
   case rel=>exact⟨k+1,t5,IY,O,O,by show pE N t w t5 ((p.seq k).zx.1.tick) w5;rw[<-HQ.o];exact d.o⟩
end
section
set_option maxHeartbeats 8000000
set_option maxRecDepth 100000
open Go.RowKit Go.Shelf
theorem oa (n:Int)(w:World):Calls Tryz.prog 104 #[n] w fun e w'=>e= .returned (decide (1<=n/\n<=65535))/\w=w':=by
 by_cases h1:1<=n
 ·have a:=H (show decide (n<=65535)=decide (1<=n/\n<=65535)from N6.2 O)
  go_enter Tryz.func104,Tryz.ntmps104
  go_wp2
  go_ret;exact⟨bW a.o,Z⟩
 go_enter Tryz.func104,Tryz.ntmps104
 go_wp2
 go_ret;exact⟨bW IH,Z⟩
theorem Cf.FX {c:Cf}(h1:1<=c.fp/\c.fp<=65535)(h2:1<=c.tp/\c.tp<=65535)(a:0<=c.kc/\c.kc<=4294967295)(d:28<=c.gi)(e:c.gi<=1000)(f:1<=c.room)(g:c.room<=8192)(h:1<=c.keep)(i:c.keep<=8192):true=c.okB:=by
 unfold Cf.okB;exact(Lc ⟨h1,h2,a,⟨d,e⟩,⟨f,g⟩,h,i⟩).symm
theorem Cf.xb {c:Cf}(h:¬((1<=c.fp/\c.fp<=65535)/\(1<=c.tp/\c.tp<=65535)/\(0<=c.kc/\c.kc<=4294967295)/\(28<=c.gi/\c.gi<=1000)/\(1<=c.room/\c.room<=8192)/\1<=c.keep/\c.keep<=8192)):false=c.okB:=by
 unfold Cf.okB;exact(Lf h).symm
theorem gY (c:Cf) (w:World) :
  Calls Tryz.prog 60 #[qK c] w fun e w'=>e= .returned c.okB/\Below w.heap.size w w':=by
 obtain⟨V,hV⟩:∃V,V=c.okB:=⟨_,Z⟩;rw[<-hV];have d:=H hV;clear hV;have f:=H ((L3 w.heap.size w).alloc (L4 _) (.cells #[c.fp,c.tp,c.kc,c.gi,c.room,c.keep] 41));unfold qK
 go_enter Tryz.func60,Tryz.ntmps60
 go_wp2_with fail;refine(oa c.fp _).mono ?_;rintro e l⟨rfl,rfl⟩;by_cases h1:1<=c.fp/\c.fp<=65535
 ·have d1:decide (1<=c.fp/\c.fp<=65535)=true:=Lc h1;go_wp2_with fail;refine(oa c.tp _).mono ?_;rintro e l⟨rfl,rfl⟩;by_cases h2:1<=c.tp/\c.tp<=65535
  ·have d2:decide (1<=c.tp/\c.tp<=65535)=true:=Lc h2;go_wp2_with fail;refine(dq c.kc _).mono ?_;rintro e l⟨rfl,rfl⟩;by_cases g:0<=c.kc/\c.kc<=4294967295
   ·have d3:decide (0<=c.kc/\c.kc<=4294967295)=true:=Lc g;by_cases t:28<=c.gi
    ·have d4:=Lf (show ¬c.gi<28 by omega);by_cases n:c.gi<=1000
     ·have d5:=Lf (show ¬1000<c.gi by omega);by_cases h:1<=c.room
      ·have p:=Lc h;by_cases i:c.room<=8192
       ·have q:=Lc i;by_cases j:1<=c.keep
        ·have r:=Lc j;by_cases k:c.keep<=8192
         ·have s:=Lc k;have a:=H (show true=V from(Cf.FX h1 h2 g O n h i j k).trans d.symm);go_wp2;go_ret;exact⟨bW a.o,f.o⟩
         have s:=Lf k;have a:=H (show false=V from(Cf.xb O).trans d.symm);go_wp2;go_ret;exact⟨bW a.o,f.o⟩
        have r:=Lf j;have a:=H (show false=V from(Cf.xb O).trans d.symm);go_wp2;go_ret;exact⟨bW a.o,f.o⟩
       have q:=Lf i;have a:=H (show false=V from(Cf.xb O).trans d.symm);go_wp2;go_ret;exact⟨bW a.o,f.o⟩
      have p:=Lf h;have a:=H (show false=V from(Cf.xb O).trans d.symm);go_wp2;go_ret;exact⟨bW a.o,f.o⟩
     have d5:=Lc (show 1000<c.gi by omega);have a:=H (show false=V from(Cf.xb O).trans d.symm);go_wp2;go_ret;exact⟨bW a.o,f.o⟩
    have d4:=Lc (show c.gi<28 by omega);have a:=H (show false=V from(Cf.xb O).trans d.symm);go_wp2;go_ret;exact⟨bW a.o,f.o⟩
   have d3:decide (0<=c.kc/\c.kc<=4294967295)=false:=Lf g;have a:=H (show false=V from(Cf.xb O).trans d.symm);go_wp2;go_ret;exact⟨bW a.o,f.o⟩
  have d2:decide (1<=c.tp/\c.tp<=65535)=false:=Lf h2;have a:=H (show false=V from(Cf.xb O).trans d.symm);go_wp2;go_ret;exact⟨bW a.o,f.o⟩
 have d1:decide (1<=c.fp/\c.fp<=65535)=false:=Lf h1;have a:=H (show false=V from(Cf.xb O).trans d.symm);go_wp2;go_ret;exact⟨bW a.o,f.o⟩
def lJ (C:Nat)(vs:Array Value)(W:World):Prop:=W.heap[C]? =some (.cells vs 85 (0,0))
theorem lJ.cell {C:Nat}{vs:Array Value}{W:World}(h:lJ C vs W)(i:Nat)(v:Value)(a:vs[i]? =some v):W.cell? ⟨C,i,none⟩=some v:=by rw[Ln _ _ _ _ _ _ h];exact a
theorem lJ.free {C:Nat}{vs:Array Value}{W:World}(h:lJ C vs W)(i:Nat):W.frozen? ⟨C,i,none⟩=false:=LT _ _ _ _ _ h
theorem lJ.set {C:Nat}{vs:Array Value}{W:World}(h:lJ C vs W)(i:Nat)(v:Value):lJ C (vs.setIfInBounds i v) (W.setCell ⟨C,i,none⟩ v):=LH _ _ _ _ _ _ h
theorem lJ.below {C:Nat}{vs:Array Value}{W W':World}(h:lJ C vs W)(a:Below W.heap.size W W'):lJ C vs W':=(a.block C (L6.1 h).1).trans h
def Cc (w:World)(d:Cn)(e:Ending)(w':World):Prop:=∃f:Fp,e= .returned f.C/\kf f d w'/\Below w.heap.size w w'/\f.Hi w.heap.size
def lf (c:Cf):Array Value:= #[.pointer none,.pointer none,.pointer none,.string ⟨#[]⟩,.int .i64 0,.int .i64 0,.int .i64 0,.int .i64 0,.bool false,.bool false,.int .i64 0,.pointer none,.int .i64 0,.int .i64 0,.int .i64 0,.bool false,.int .i64 0,.bool false,.int .i64 0,.bool false,.int .i64 0,.int .i64 0,.int .i64 c.fp,.int .i64 c.tp,.int .i64 c.kc,.int .i64 c.gi,.int .i64 c.room,.int .i64 c.keep,.int .i64 0,.int .i64 0,.bool false,.int .i64 0,.int .i64 0,.int .i64 0,.bool false,.int .i64 0,.int .i64 0]
theorem th (now:Int) (c:Cf) (w:World) (h:c.okB=false) :
  Calls Tryz.prog 29 #[now,qK c] w fun e w'=>e= .returned (.pointer none)/\Below w.heap.size w w':=by
 have a:=(L3 w.heap.size w).alloc (L4 _) (.cells #[c.fp,c.tp,c.kc,c.gi,c.room,c.keep] 41);have d:=H (gY c (w.alloc (.cells #[c.fp,c.tp,c.kc,c.gi,c.room,c.keep] 41)));rw[h]at d;have f:=H a;clear a;unfold qK at d|-
 go_enter Tryz.func29,Tryz.ntmps29
 go_wp2_with fail;refine d.mono ?_;rintro e i⟨rfl,g⟩;replace f:=H (f.trans (g.mono Ky));clear g;go_wp2;go_ret;exact⟨Z,f.o⟩
structure Gp (w:World)(c:Cf)(C G X R:Nat)(b:Bx)(m:Cg)(vs:Array Value)(W:World):Prop where
 row:lJ C vs W
 cg:eX G m W
 bx:ar X R 0 b W
 gl:Gl W
 oz:Below w.heap.size w W
 GT:W.heap[w.heap.size]? =some (.cells #[c.fp,c.tp,c.kc,c.gi,c.room,c.keep] 41)
 lo:w.heap.size<=C/\eQ<=w.heap.size
namespace Gp
variable {w : World} {c : Cf} {C G X R : Nat} {b : Bx} {m : Cg} {vs vs' : Array Value} {W W' : World}
theorem zs (h:Gp w c C G X R b m vs W):dX W C 85:=⟨_,_,h.row⟩
theorem below (h:Gp w c C G X R b m vs W)(a:Below W.heap.size W W'):Gp w c C G X R b m vs W' :=
 ⟨h.row.below a,h.cg.keep (a.block _ h.cg.D4.lt),h.bx.keep (a.block _ h.bx.D4.1.lt) (a.block _ h.bx.D4.2.lt) a.size (.below a),h.gl.below (a.mono h.gl.top),h.oz.trans (a.mono h.oz.size),(a.block _ (L6.1 h.GT).1).trans h.GT,h.lo⟩
theorem BS (h:Gp w c C G X R b m vs W)(a:lh C W W')(hr:lJ C vs' W'):Gp w c C G X R b m vs' W':=by
 have d:=h.zs;have g:dX W w.heap.size 41:=⟨_,_,h.GT⟩;have f:=h.lo;have e:Below w.heap.size W W':=⟨a.os,a.tape,a.output,a.size,fun k i=>a.block k (Lb i h.oz.size) O⟩;exact⟨hr,h.cg.keep (a.block _ h.cg.D4.lt (h.cg.D4.ne d D)),h.bx.keep (a.block _ h.bx.D4.1.lt (h.bx.D4.1.ne d D)) (a.block _ h.bx.D4.2.lt (h.bx.D4.2.ne d D)) a.size (.BS a d D),h.gl.below (e.mono f.2),h.oz.trans e,(a.block _ g.lt (g.ne d D)).trans h.GT,h.lo⟩
theorem cell (h:Gp w c C G X R b m vs W)(i:Nat)(v:Value)(a:(#[c.fp,c.tp,c.kc,c.gi,c.room,c.keep]:Array Value)[i]? =some v):W.cell? ⟨w.heap.size,i,none⟩=some v:=by rw[Ln _ _ _ _ _ _ h.GT];exact a
end Gp
theorem nV (now:Int) (c:Cf) (w:World) (hc:c.okB=true) (gl:Gl w) :
  Calls Tryz.prog 29 #[now,qK c] w (Cc w (db now c)):=by
 have A:=hc;unfold Cf.okB at A;have A:=LJ A;obtain⟨-,-,-,hm,hr,-⟩:=A;have p:=gl.top;obtain⟨ea,bz⟩:=gl.err;have HG:=H gl;have a1:=(L3 w.heap.size w).alloc (L4 _) (.cells #[c.fp,c.tp,c.kc,c.gi,c.room,c.keep] 41);have HV:=H (gY c (w.alloc (.cells #[c.fp,c.tp,c.kc,c.gi,c.room,c.keep] 41)));rw[hc]at HV;have n:=H a1;have e6:w.heap.size<(w.alloc (.cells #[c.fp,c.tp,c.kc,c.gi,c.room,c.keep] 41)).heap.size:=Ky
 have F:(w.alloc (.cells #[c.fp,c.tp,c.kc,c.gi,c.room,c.keep] 41)).cell? w.heap.size=some (c.fp:Y):=Jd
 have I:(w.alloc (.cells #[c.fp,c.tp,c.kc,c.gi,c.room,c.keep] 41)).cell? ⟨w.heap.size,1,none⟩=some (c.tp:Y):=Jd
 have J:(w.alloc (.cells #[c.fp,c.tp,c.kc,c.gi,c.room,c.keep] 41)).cell? ⟨w.heap.size,2,none⟩=some (c.kc:Y):=Jd
 have K:(w.alloc (.cells #[c.fp,c.tp,c.kc,c.gi,c.room,c.keep] 41)).cell? ⟨w.heap.size,3,none⟩=some (c.gi:Y):=Jd
 have u:(w.alloc (.cells #[c.fp,c.tp,c.kc,c.gi,c.room,c.keep] 41)).cell? ⟨w.heap.size,4,none⟩=some (c.room:Y):=Jd
 have L:(w.alloc (.cells #[c.fp,c.tp,c.kc,c.gi,c.room,c.keep] 41)).cell? ⟨w.heap.size,5,none⟩=some (c.keep:Y):=Jd
 have i:=H (show(w.alloc (.cells #[c.fp,c.tp,c.kc,c.gi,c.room,c.keep] 41)).heap[w.heap.size]? =some (.cells #[c.fp,c.tp,c.kc,c.gi,c.room,c.keep] 41)from Lp _ _);clear gl a1;unfold qK at HV|-;obtain⟨R,hR⟩:∃R,R=db now c:=⟨_,Z⟩;rw[<-hR];have HR:=H hR;clear hR
 go_enter Tryz.func29,Tryz.ntmps29
 go_wp2_with fail;generalize w.alloc (.cells #[c.fp,c.tp,c.kc,c.gi,c.room,c.keep] 41)=w1 at *;refine HV.mono ?_;rintro e M⟨rfl,g⟩;clear F I J K u L;replace i:=H ((g.block _ (L6.1 i.o).1).trans i.o);replace n:=H (n.trans (g.mono n.size));clear g;have F:M.cell? w.heap.size=some (c.fp:Y):=IM
 have I:M.cell? ⟨w.heap.size,1,none⟩=some (c.tp:Y):=IM
 have J:M.cell? ⟨w.heap.size,2,none⟩=some (c.kc:Y):=IM
 have K:M.cell? ⟨w.heap.size,3,none⟩=some (c.gi:Y):=IM
 have u:M.cell? ⟨w.heap.size,4,none⟩=some (c.room:Y):=IM
 have L:M.cell? ⟨w.heap.size,5,none⟩=some (c.keep:Y):=IM
 have cC:(c.room.toNat:Int)=c.room:=O
 go_wp2_with fail;have bc:=H (AU c.room.toNat O O M);rw[cC]at bc;refine bc.mono ?_;rintro e x⟨U,RX,rfl,hx,g,a2,a3⟩;clear F I J K u L;have y:=n.size;replace i:=H ((g.block _ (L6.1 i.o).1).trans i.o);replace n:=H (n.trans (g.mono n.size));have t:=H (hx 0);clear g hx;have F:x.cell? w.heap.size=some (c.fp:Y):=IM
 have I:x.cell? ⟨w.heap.size,1,none⟩=some (c.tp:Y):=IM
 have J:x.cell? ⟨w.heap.size,2,none⟩=some (c.kc:Y):=IM
 have K:x.cell? ⟨w.heap.size,3,none⟩=some (c.gi:Y):=IM
 have u:x.cell? ⟨w.heap.size,4,none⟩=some (c.room:Y):=IM
 have L:x.cell? ⟨w.heap.size,5,none⟩=some (c.keep:Y):=IM
 have ak:=bz.below n.o (by have h9:0<eQ:=D;omega);go_wp2_with fail;have e7:=n.size;refine(qt c.gi ea x ak hm.1 O).mono ?_;rintro e r⟨rfl,hg,g⟩;clear F I J K u L;have al:=H hg;replace t:=H (t.keep (g.block _ t.D4.1.lt) (g.block _ t.D4.2.lt) g.size (.below g));replace i:=H ((g.block _ (L6.1 i.o).1).trans i.o);replace n:=H (n.trans (g.mono n.size));clear g hg ak;have F:r.cell? w.heap.size=some (c.fp:Y):=IM
 have I:r.cell? ⟨w.heap.size,1,none⟩=some (c.tp:Y):=IM
 have J:r.cell? ⟨w.heap.size,2,none⟩=some (c.kc:Y):=IM
 have K:r.cell? ⟨w.heap.size,3,none⟩=some (c.gi:Y):=IM
 have u:r.cell? ⟨w.heap.size,4,none⟩=some (c.room:Y):=IM
 have L:r.cell? ⟨w.heap.size,5,none⟩=some (c.keep:Y):=IM
 have bd:=H (show lJ r.heap.size (lf c) (r.alloc (.cells (lf c) 85))from Lp _ _);have g:=(L3 r.heap.size r).alloc (L4 _) (.cells (lf c) 85);have cF:=n.size;replace al:=H (al.keep (g.block _ al.D4.lt));replace t:=H (t.keep (g.block _ t.D4.1.lt) (g.block _ t.D4.2.lt) g.size (.below g));replace i:=H ((g.block _ (L6.1 i.o).1).trans i.o);replace n:=H (n.trans (g.mono n.size));clear g;have d:=H (show Gp w c r.heap.size x.heap.size U RX (nZ c.room.toNat) (Bd c.gi) (lf c) (r.alloc (.cells (lf c) 85))from⟨bd.o,al.o,t.o,HG.below (n.mono p),n.o,i.o,cF,p⟩);clear bd al t i n;go_wp2_with fail;clear F I J K u L;change Code.wp _ _ _ _ (r.alloc (.cells (lf c) 85));generalize r.alloc (.cells (lf c) 85)=w5 at d|-;generalize hC:r.heap.size=C at d|-;generalize hG:x.heap.size=G at d|-;have be:w.heap.size<=G:=O
 clear hC hG;refine az (fun W:World=>W.cell? ⟨w.heap.size,3,none⟩=some (c.gi:Y)) (d.cell 3 c.gi Z) fun B=>?_;replace d:=H (d.below (L3 _ _).drew);generalize a4:World.drew _=ab at d B|-;clear a4;refine aA 0 3 4 5 ?_;refine aZ 1 fun Kq q=> ?_;go_simp;refine(vO _).mono ?_;rintro e N⟨rfl,rfl⟩;have b9:=bK.new (w:=ab) (lb:=ab.heap.size+1) Z;have j:=H (b9.2 _ (L3 _ _) (Nat.lt_succ_self _) b9.1);clear b9;have ba:w.heap.size<=ab.heap.size:=d.oz.size;replace d:=H (d.below ((L3 ab.heap.size ab).alloc (L4 _) (.cells (eI AK none 0 none 0) 135)));generalize ab.alloc (.cells (eI AK none 0 none 0) 135)=N at d j|-;generalize ab.heap.size=S at j ba|-;go_simp;refine q.out _ _ (d.cell 3 c.gi Z) ?_;clear q Kq B;refine fun B=>aW ?_;refine aZ 2 fun Kq q=> ?_;go_simp;refine(AV _).mono ?_;rintro e V⟨rfl,rfl⟩;have l:=H (gJ.new N);have bb:w.heap.size<=N.heap.size:=d.oz.size;have am:=(L3 N.heap.size N).alloc (L4 _) (.cells (gr qJ) 142);replace d:=H (d.below am);replace j:=H (j.keep (am.block _ j.D4.lt) am.size (.below am));clear am;generalize N.alloc (.cells (gr qJ) 142)=V at d j l|-;generalize N.heap.size=T at l bb|-;have c0:=d.row.cell 0 (.pointer none) Z;have c1:=d.row.cell 1 (.pointer none) Z;have c2:=d.row.cell 2 (.pointer none) Z;have c3:=d.row.cell 3 (.string ⟨#[]⟩) Z;have c4:=d.row.cell 4 (0:Int) Z;have c5:=d.row.cell 5 (0:Int) Z;have c6:=d.row.cell 6 (0:Int) Z;have c7:=d.row.cell 7 (0:Int) Z;have c8:=d.row.cell 8 false Z;have c9:=d.row.cell 9 false Z;have a5:=d.row.cell 10 (0:Int) Z;have f0:=d.row.free 0;have f1:=d.row.free 1;have f2:=d.row.free 2;have f3:=d.row.free 3;have f4:=d.row.free 4;have f5:=d.row.free 5;have f6:=d.row.free 6;have f7:=d.row.free 7;have f8:=d.row.free 8;have f9:=d.row.free 9;have a9:=d.row.free 10;go_simp;refine q.out _ _ (d.cell 3 c.gi Z) ?_;clear q Kq B;refine fun B=>aW ?_;refine aM 6 7 ?_;refine aQ 8 ?_;have h:=d.zs;have ad:dX V w.heap.size 41:=⟨_,_,d.GT⟩;have an:=ad.lt;have av:=ad.ne h D;refine aZ 9 fun Kq q=> ?_;go_simp;refine q.out _ _ ((Lg (a:=⟨w.heap.size,3,none⟩) (((((((((((((lh.refl _ _).setCell 0 _).setCell 1 _).setCell 2 _).setCell 3 _).setCell 4 _).setCell 5 _).setCell 6 _).setCell 7 _).setCell 8 _).setCell 9 _).setCell 10 _).block w.heap.size (an) av)).trans (d.cell 3 c.gi Z)) ?_;clear q Kq B;refine fun B=>aW ?_;refine ay ?_ _;clear B h ad an av;clear c0 f0 c1 f1 c2 f2 c3 f3 c4 f4 c5 f5 c6 f6 c7 f7 c8 f8 c9 f9 a5 a9;have f:lh C V (((((((((((V.setCell C S).setCell ⟨C,1,none⟩ T).setCell ⟨C,2,none⟩ G).setCell ⟨C,3,none⟩ (.string ⟨#[]⟩)).setCell ⟨C,4,none⟩ (1:Int)).setCell ⟨C,5,none⟩ (0:Int)).setCell ⟨C,6,none⟩ (0:Int)).setCell ⟨C,7,none⟩ c.gi).setCell ⟨C,8,none⟩ false).setCell ⟨C,9,none⟩ false).setCell ⟨C,10,none⟩ (0:Int)):=((((((((((((lh.refl C V).setCell 0 S).setCell 1 T).setCell 2 G).setCell 3 (.string ⟨#[]⟩)).setCell 4 (1:Int)).setCell 5 (0:Int)).setCell 6 (0:Int)).setCell 7 c.gi).setCell 8 false).setCell 9 false).setCell 10 (0:Int));have s:=(((((((((((d.row.set 0 S).set 1 T).set 2 G).set 3 (.string ⟨#[]⟩)).set 4 (1:Int)).set 5 (0:Int)).set 6 (0:Int)).set 7 c.gi).set 8 false).set 9 false).set 10 (0:Int));simp only[lf,Ld,Li,Lk]at s;have h:=d.zs;replace j:=H (j.keep (f.block _ j.D4.lt (j.D4.ne h D)) f.size (.BS f h D));replace l:=H (l.keep (f.block _ l.D4.lt (l.D4.ne h D)));replace d:=H (d.BS f s);clear f s h;generalize (((((((((((V.setCell C S).setCell ⟨C,1,none⟩ T).setCell ⟨C,2,none⟩ G).setCell ⟨C,3,none⟩ (.string ⟨#[]⟩)).setCell ⟨C,4,none⟩ (1:Int)).setCell ⟨C,5,none⟩ (0:Int)).setCell ⟨C,6,none⟩ (0:Int)).setCell ⟨C,7,none⟩ c.gi).setCell ⟨C,8,none⟩ false).setCell ⟨C,9,none⟩ false).setCell ⟨C,10,none⟩ (0:Int))=w8 at d j l|-;have u:=d.cell 4 c.room Z;have b6:=d.row.cell 11 (.pointer none) Z;have b7:=d.row.cell 12 (0:Int) Z;have b8:=d.row.cell 13 (0:Int) Z;have d0:=d.row.cell 14 (0:Int) Z;have d1:=d.row.cell 15 false Z;have d2:=d.row.cell 16 (0:Int) Z;have d3:=d.row.cell 17 false Z;have d4:=d.row.cell 18 (0:Int) Z;have d5:=d.row.cell 19 false Z;have d6:=d.row.cell 20 (0:Int) Z;have d7:=d.row.cell 21 (0:Int) Z;have d8:=d.row.free 11;have cL:=d.row.free 12;have cM:=d.row.free 13;have d9:=d.row.free 14;have e0:=d.row.free 15;have e1:=d.row.free 16;have e2:=d.row.free 17;have cS:=d.row.free 18;have e3:=d.row.free 19;have cT:=d.row.free 20;have cV:=d.row.free 21;have c1:=d.row.cell 1 T Z;go_wp2_with fail;clear u c1;clear b6 d8 b7 cL b8 cM d0 d9 d1 e0 d2 e1 d3 e2 d4 cS d5 e3 d6 cT d7 cV;have f:lh C w8 (((((((((((w8.setCell ⟨C,11,none⟩ U).setCell ⟨C,12,none⟩ (0:Int)).setCell ⟨C,13,none⟩ c.room).setCell ⟨C,14,none⟩ c.room).setCell ⟨C,15,none⟩ false).setCell ⟨C,16,none⟩ (0:Int)).setCell ⟨C,17,none⟩ false).setCell ⟨C,18,none⟩ (0:Int)).setCell ⟨C,19,none⟩ false).setCell ⟨C,20,none⟩ (0:Int)).setCell ⟨C,21,none⟩ (0:Int)):=((((((((((((lh.refl C w8).setCell 11 U).setCell 12 (0:Int)).setCell 13 c.room).setCell 14 c.room).setCell 15 false).setCell 16 (0:Int)).setCell 17 false).setCell 18 (0:Int)).setCell 19 false).setCell 20 (0:Int)).setCell 21 (0:Int));have s:=(((((((((((d.row.set 11 U).set 12 (0:Int)).set 13 c.room).set 14 c.room).set 15 false).set 16 (0:Int)).set 17 false).set 18 (0:Int)).set 19 false).set 20 (0:Int)).set 21 (0:Int));simp only[Ld,Li,Lk]at s;have h:=d.zs;replace j:=H (j.keep (f.block _ j.D4.lt (j.D4.ne h D)) f.size (.BS f h D));replace l:=H (l.keep (f.block _ l.D4.lt (l.D4.ne h D)));replace d:=H (d.BS f s);clear f s h;generalize (((((((((((w8.setCell ⟨C,11,none⟩ U).setCell ⟨C,12,none⟩ (0:Int)).setCell ⟨C,13,none⟩ c.room).setCell ⟨C,14,none⟩ c.room).setCell ⟨C,15,none⟩ false).setCell ⟨C,16,none⟩ (0:Int)).setCell ⟨C,17,none⟩ false).setCell ⟨C,18,none⟩ (0:Int)).setCell ⟨C,19,none⟩ false).setCell ⟨C,20,none⟩ (0:Int)).setCell ⟨C,21,none⟩ (0:Int))=w9 at d j l|-;refine(ig T qJ xL _ l.o).mono ?_;rintro e e8⟨rfl,g⟩;replace d:=H (d.below g);replace j:=H (j.keep (g.block _ j.D4.lt) g.size (.below g));replace l:=H (l.keep (g.block _ l.D4.lt));clear g;go_wp2_with fail;refine(dR _ _ _).mono ?_;rintro e z⟨rfl,g⟩;replace d:=H (d.below g);replace j:=H (j.keep (g.block _ j.D4.lt) g.size (.below g));replace l:=H (l.keep (g.block _ l.D4.lt));clear g;have cX:=d.row.cell 30 false Z;have cY:=d.row.cell 31 (0:Int) Z;have ca:=d.row.cell 32 (0:Int) Z;have cb:=d.row.free 30;have cf:=d.row.free 31;have e4:=d.row.free 32;have c0:=d.row.cell 0 S Z;go_wp2_with fail;clear c0;clear cX cb cY cf ca e4;have f:lh C z (((z.setCell ⟨C,30,none⟩ true).setCell ⟨C,31,none⟩ now).setCell ⟨C,32,none⟩ qJ.value):=((((lh.refl C z).setCell 30 true).setCell 31 now).setCell 32 qJ.value);have s:=(((d.row.set 30 true).set 31 now).set 32 qJ.value);simp only[Ld,Li,Lk]at s;have h:=d.zs;replace j:=H (j.keep (f.block _ j.D4.lt (j.D4.ne h D)) f.size (.BS f h D));replace l:=H (l.keep (f.block _ l.D4.lt (l.D4.ne h D)));replace d:=H (d.BS f s);clear f s h;generalize (((z.setCell ⟨C,30,none⟩ true).setCell ⟨C,31,none⟩ now).setCell ⟨C,32,none⟩ qJ.value)=IC at d j l|-;have bk:=d.lo.1;have E:=H (show kf ⟨C,S,T,G,U,RX⟩ { db now c with sc:=AK,tm:=qJ } IC from⟨d.row,j.o,l.o,d.cg,d.bx,d.gl,⟨L8 p bk,L8 p ba,L8 p bb,L8 p be,L8 p (L8 y a2),L8 p (L8 y a3)⟩⟩);have P:=H d.oz;clear d j l;refine(iA S (S+1) AK 1 _ E.sc).mono ?_;rintro e e5⟨rfl,hs,f⟩;replace P:=H (P.trans ⟨f.os,f.tape,f.output,f.size,fun k A=>f.block k (Lb A P.size) O⟩);replace E:=H (E.FB hs f);clear hs f;have c1:e5.cell? ⟨C,1,none⟩=some (T:Y):=E.cell 1 _ Z;go_wp2_with fail;clear c1;refine(mP T qJ now 1 _ E.tm).mono ?_;rintro e e9⟨rfl,ht,f⟩;replace P:=H (P.trans ⟨f.os,f.tape,f.output,f.size,fun k A=>f.block k (Lb A P.size) O⟩);replace E:=H (E.Gx ht f);clear ht f;go_wp2;go_ret;exact⟨_,Z,by rw[HR.o];exact E.o,P.o,⟨bk,ba,bb,be,L8 y a2,L8 y a3⟩⟩
end
end Go.Proofs.YtcmncipikdpnbaaGreatDoor
