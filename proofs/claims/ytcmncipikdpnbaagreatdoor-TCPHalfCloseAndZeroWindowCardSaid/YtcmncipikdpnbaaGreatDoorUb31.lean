import Derived.Test.YtcmncipikdpnbaaGreatDoorUb30
namespace Go.Proofs.YtcmncipikdpnbaaGreatDoor
section
set_option maxHeartbeats 8000000
set_option maxRecDepth 100000
open Go.RowKit Go.Shelf
def tO (f:Fp)(w:World)(a:Value->Value)(L:List Sg)(d:Cn)(e:Ending)(w':World):Prop:=∃v,e= .returned (a v)/\aL w' w.heap.size v L/\kf f d w'/\nA f w w'
def Cn.Fi (c:Cn)(s:List UInt8):Int:=if c.refusal=0 then c.nX s else 0
def Cn.Fj (c:Cn)(s:List UInt8)(n:Int):Cn:={ c with held:=c.held++s.take n.toNat }
def Cn.AD (c:Cn):Cn:={ c with shut:=true }
def nG (n a:Int)(v:Value):Value:=.tuple #[n,v,a]
def lD (a:Int)(v:Value):Value:=.tuple #[v,a]
theorem oV (f:Fp) (c:Cn) (now:Int) (s:List UInt8) (w:World) (h:kf f c w) (ok:c.Ok) (m:aI now) (k:c.last+s.length<=1073741824) :
  Calls Tryz.prog 49 #[f.C,now,.string ⟨s.toArray⟩] w (tO f w (nG (c.Fi s) c.refusal) (c.send now s).2 (c.send now s).1):=by
 have HN:=H m;have a0:=h.gl.top;have a1:=h.lt;have p:=H ok;have a:=H (Lw.start h);clear h ok m;obtain⟨R,G⟩:∃R,R=c.send now s:=⟨_,Z⟩;rw[<-G];have g:=H G;clear G;obtain⟨V,hV⟩:∃V,V=c.Fi s:=⟨_,Z⟩;rw[<-hV];have u:=H hV;clear hV;have S:=H k;clear k;obtain⟨r,B⟩:∃r,r=c.refusal:=⟨_,Z⟩;rw[<-B];have E:=H B;have hz:(⟨s.toArray⟩:ByteArray).size=s.length:=IL
 go_enter Tryz.func49,Tryz.ntmps49
 go_wp2_with fail;refine(iF f c _ a.cn).mono ?_;rintro e w1⟨rfl,k⟩;replace a:=H (a.oz k);clear k;rw[<-B];clear B;by_cases l:r=0
 ·have x:=H l;have I:(r==0)=true:=Mb.2 l;have J:(r != 0)=false:=by rw[l];rfl
  clear l;replace u:=H (show V=c.nX s by rw[u.o];exact L7 (E.symm.trans x.o));replace g:=H (g.trans (by unfold Cn.send;rw[L5 (fun h=>h (E.symm.trans x.o))]));have bc:=H (show 0<=c.space/\c.space<=8192 by have h1:=p.GP;unfold Cn.space;split <;> omega);go_wp2_with fail;refine(sj f c _ a.cn (by have:=p.hlen;omega) (by have:=p.GP;omega)).mono ?_;rintro e w2⟨rfl,k⟩;replace a:=H (a.oz k);clear k;have K:=bc.o;have a2:s.length<=1073741824:=by have h1:=S.o;have h2:=p.b0;unfold Cn.last at h1;omega
  obtain⟨sp,i⟩:∃sp,sp=c.space:=⟨_,Z⟩;rw[<-i]at K|-;have bd:=H i;clear i;obtain⟨n,m⟩:∃n:Int,n=min (s.length:Int) sp:=⟨_,Z⟩;have T:=H (show c.nX s=n by unfold Cn.nX;rw[<-bd.o,m]);have L:=a.cn.cell 3 (.string ⟨c.held.toArray⟩) Z;have f3:=a.cn.free 3;have be:0<=n/\n<=s.length:=O
  go_wp2_with fail;rw[<-m];clear m;have z:∀W:World,(Op.stringOp .add (⟨c.held.toArray⟩:ByteArray) ((⟨s.toArray⟩:ByteArray).extract 0 n.toNat)).run Tryz.prog W= .ok (.string ⟨(c.held++s.take n.toNat).toArray⟩) W:=fun W=>by rw[iE,MH];exact NX W _ _ (by have:=p.hlen;simp[ByteArray.size];omega)
  refine az (fun _:World=>True) (trivial) fun y=>?_;replace a:=H (a.o.oz (L3 _ _).drew);replace L:=a.o.cn.cell 3 (.string ⟨c.held.toArray⟩) Z;replace f3:=a.o.cn.free 3;generalize M:World.drew _=GZ at a L f3 y|-;clear M;refine aQ 0 ?_ (hy:=J1);refine aQ 1 ?_ (hy:=J1);refine aQ 2 ?_ (hy:=J1);refine aQ 3 ?_ (hy:=J1);refine aQ 5 ?_ (hy:=J1);refine aQ 6 ?_ (hy:=J1);refine aQ 7 ?_ (hy:=J1);refine aZ 4 fun P j=> ?_;go_simp;refine j.out _ _ (trivial) ?_;clear j P y;refine fun y=>aW ?_;refine aQ 8 ?_ (hy:=J1);refine aQ 9 ?_ (hy:=J1);refine aQ 10 ?_ (hy:=J1);refine aQ 11 ?_ (hy:=J1);refine aZ 12 fun P j=> ?_;go_simp;refine j.out _ _ (trivial) ?_;clear j P y;refine fun y=>aW ?_;refine ay ?_ _;clear y;replace g:=H (show R=(c.Fj s n).push now from g.o.trans (by rw[T.o];rfl));have U:=H (show(c.Fj s n).Ok from { p.o with b1:=by have:=S.o;unfold Cn.last at this|-;show c.base+((c.held++s.take n.toNat).length:Int)<=_;rw[La,Le];omega });replace a:=H (a.o.call (a.o.cn.set 3 (.string ⟨(c.held++s.take n.toNat).toArray⟩) (c.Fj s n) Z Z Z Z Z) (.Da ((lh.refl _ _).setCell 3 _)));clear L f3 z;generalize c.Fj s n=d at a U g;go_wp2_with fail;refine(aq f d now _ a.o.cn U.o HN.o).mono ?_;rintro e wz⟨v,rfl,X,hc,A⟩;have HL:=H (aL.low X a.o.ch.size);have a4:=H hc;have a5:=H (a.o.ch.trans A);clear X hc A;go_wp2_with fail
  go_ret3
  exact⟨_,by rw[u.o,T.o,x.o];rfl,by rw[g.o];exact HL.o,by rw[g.o];exact a4.o,a5.o⟩
 have x:=H l;have I:(r==0)=false:=Ll.2 l;have J:(r != 0)=true:=bne_iff_ne.2 l;clear l;replace u:=H (show V=0 by rw[u.o];exact L5 (fun h=>x.o (E.trans h)));replace g:=H (g.trans (by unfold Cn.send;rw[L7 (fun h=>x.o (E.trans h))]));go_wp2_with fail
 go_ret3
 exact⟨_,by rw[u.o];rfl,J2,J3,a.ch⟩
theorem nH (f:Fp) (c:Cn) (now:Int) (w:World) (h:kf f c w) (ok:c.Ok) (K:aI now) :
  Calls Tryz.prog 48 #[f.C,now] w (tO f w (lD c.te) (c.close now).2 (c.close now).1):=by
 have P:=H ok.tr2;have u:=H K;have S:=h.gl.top;have T:=h.lt;have U:=H ok;have a:=H (Lw.start h);clear h ok K;obtain⟨R,x⟩:∃R,R=c.close now:=⟨_,Z⟩;rw[<-x];have d:=H x;clear x;obtain⟨L,y⟩:∃L,L=c.te:=⟨_,Z⟩;rw[<-y];have g:=H y;clear y
 go_enter Tryz.func48,Tryz.ntmps48
 go_wp2_with fail;refine(bV f c _ a.cn).mono ?_;rintro e w1⟨rfl,M⟩;replace a:=H (a.oz M);clear M;by_cases h0:c.st=0
 ·replace d:=H (d.trans (by unfold Cn.close;rw[L7 (.inl h0)]));replace g:=H (g.trans (by unfold Cn.te;rw[L7 (.inl h0)]));have z:decide (c.st=0)=true:=Lc h0;clear h0;go_wp2_with fail
  go_ret2
  exact⟨_,by rw[g.o];rfl,J8,by rw[d.o];exact a.cn,a.ch⟩
 have A:=H h0;have z:decide (c.st=0)=false:=Lf h0;clear h0;by_cases hs:c.shut=true
 ·have j:=H hs;replace d:=H (d.trans (by unfold Cn.close;rw[L7 (.inr j.o)]));replace g:=H (g.trans (by unfold Cn.te;rw[L7 (.inr j.o)]));have p:=(a.cn.cell 9 c.shut Z).trans (by rw[j.o]);clear hs;go_wp2_with fail
  go_ret2
  exact⟨_,by rw[g.o];rfl,J8,by rw[d.o];exact a.cn,a.ch⟩
 have j:=H (show c.shut=false by simpa using hs);replace g:=H (g.trans (by unfold Cn.te;rw[L5 KQ]));replace d:=H (show R=if c.AD.st=1 then(c.AD.finish now 5 183,[])else if c.AD.st=2 then c.AD.push now else(c.AD.step now 5).push now from d.trans (by unfold Cn.close;rw[L5 KQ];rfl));clear hs;have p:=(a.cn.cell 9 c.shut Z).trans (by rw[j.o]);have B:=a.cn.free 9;have l:=a.cn.cell 28 c.st Z;have r:=H (show c.AD.Ok from { U.o with });have V:=H (show c.AD.tries<=12 from P.o A.o);have k:=H (a.call (a.cn.set 9 true c.AD Z Z Z Z Z) (.Da ((lh.refl _ _).setCell 9 _)));by_cases h1:c.st=1
 ·have m:=H h1;rw[h1]at l;clear h1;replace d:=H (d.trans (L7 (show c.AD.st=1 from m.o)));go_wp2_with fail;replace a:=k;clear k p B;clear l;refine(eR f c.AD now 5 183 _ a.cn r.st D).mono ?_;rintro e X⟨rfl,i,b⟩;replace a:=H (a.call i b);clear i b;go_wp2_with fail
  go_ret2
  exact⟨_,by rw[g.o];rfl,J8,by rw[d.o];exact a.cn,a.ch⟩
 have m:=H h1;clear h1;by_cases h2:c.st=2
 ·have E:=H h2;rw[h2]at l;clear h2;replace d:=H (d.trans ((L5 (show ¬c.AD.st=1 from m.o)).trans (L7 (show c.AD.st=2 from E.o))));go_wp2_with fail;replace a:=k;clear k p B;clear l;refine(aq f c.AD now _ a.cn r.o u.o).mono ?_;rintro e wz⟨v,rfl,n,i,b⟩;have G:=H (aL.low n a.ch.size);have I:=H i;have J:=H (a.ch.trans b);clear n i b;go_wp2_with fail
  go_ret2
  exact⟨_,by rw[g.o];rfl,by rw[d.o];exact G.o,Jr,J.o⟩
 have E:=H h2;have a0:(c.st==1)=false:=Ll.2 m.o;have bo:(c.st==2)=false:=Ll.2 h2;clear h2;replace d:=H (d.trans ((L5 (show ¬c.AD.st=1 from m.o)).trans (L5 (show ¬c.AD.st=2 from E.o))));go_wp2_with fail;replace a:=k;clear k p B;clear l;refine(cU f c.AD now 5 _ a.cn r.st D).mono ?_;rintro e X⟨rfl,i,b⟩;replace a:=H (a.call i b);clear i b;go_wp2_with fail;refine(aq f (c.AD.step now 5) now _ a.cn (r.step u.o V.o 5) u.o).mono ?_;rintro e wz⟨v,rfl,n,i,b⟩;have G:=H (aL.low n a.ch.size);have I:=H i;have J:=H (a.ch.trans b);clear n i b;go_wp2_with fail
 go_ret2
 exact⟨_,by rw[g.o];rfl,by rw[d.o];exact G.o,Jr,J.o⟩
end
section
set_option maxHeartbeats 8000000
set_option maxRecDepth 100000
open Go.RowKit Go.Shelf
theorem bC {fn:Func}{t u v x:Tmp}(h:fn.results= #[.tmp t,.tmp u,.tmp v,.tmp x])(tmps:Array Value)(P:Program)(w:World) :
  (results fn tmps).run P w= .ok (.tuple #[tmps.getD t undef,tmps.getD u undef,tmps.getD v undef,tmps.getD x undef]) w:=by
 simp[results,h]
def nI (s:List UInt8)(a:Bool)(b:Int)(v:Value):Value:=.tuple #[.string ⟨s.toArray⟩,a,v,b]
def Cn.Fm (c:Cn)(n:Int):List UInt8:=if n<0 then []else c.bx.nB n
def Cn.Fn (c:Cn)(n:Int):Bool:=if n<0 then false else if c.nF n=0 then c.qF n else false
def Cn.takeC (c:Cn)(n:Int):Cn:={ c with bx:=c.bx.take n }
theorem oW (f:Fp) (c:Cn) (now n:Int) (w:World) (h:kf f c w) (ok:c.Ok) (hn:aI now) :
  Calls Tryz.prog 47 #[f.C,now,n] w (tO f w (nI (c.Fm n) (c.Fn n) (c.nF n)) (c.recv now n).2 (c.recv now n).1):=by
 have HN:=H hn;have a3:=h.gl.top;have b0:=h.lt;have HO:=H ok;have a:=H (Lw.start h);clear h ok hn;obtain⟨R,hR⟩:∃R,R=c.recv now n:=⟨_,Z⟩;rw[<-hR];have g:=H hR;clear hR;obtain⟨TT,hT⟩:∃TT,TT=c.Fm n:=⟨_,Z⟩;obtain⟨FF,hF⟩:∃FF,FF=c.Fn n:=⟨_,Z⟩;obtain⟨ER,hE⟩:∃ER,ER=c.nF n:=⟨_,Z⟩;rw[<-hT,<-hF,<-hE];have r:=H hT;have i:=H hF;have l:=H hE;clear hT hF hE
 go_enter Tryz.func47,Tryz.ntmps47
 by_cases h0:n<0
 ·replace g:=H (g.trans (by unfold Cn.recv;rw[L7 h0]));replace r:=H (r.trans (L7 h0));replace i:=H (i.trans (L7 h0));replace l:=H (l.trans (L7 h0));have a1:decide (n<0)=true:=Lc h0;clear h0;go_wp2_with fail
  (try simp only[Exit.inBlock,Exit.then])
  refine Lm (bC Z _ _ _) Z ?_;exact⟨_,IZ,J2,J3,a.ch⟩
 have H0:=H h0;have a1:decide (n<0)=false:=Lf h0;clear h0;have z:=H (show ¬n<0 by have:=H0.o;omega);replace r:=H (r.trans (L5 J4));replace i:=H (i.trans (L5 J4));replace g:=H (show R=if c.bx.nB n=[]then(c.takeC n,[])else if(c.takeC n).tE (c.takeC n).gi=false\/aV (c.takeC n).st=false then(c.takeC n,[])else(c.takeC n).gB.push now from g.trans (by unfold Cn.recv;rw[L5 J4];rfl));have K:=H (show(c.takeC n).Ok from HO.take n);have b2:=H (show c.qF n=((c.takeC n).reached&&decide ((c.takeC n).bx.nx-(c.takeC n).bx.rd=0))from Z);have u:=H (show(c.takeC n).st=c.st/\(c.takeC n).failure=c.failure from⟨Z,Z⟩);have U:=a.cn.cell 11 f.X Z;go_wp2_with fail;clear U;refine(xj f.X f.R 0 c.bx n _ a.cn.bx HO.bx).mono ?_;rintro e w2⟨rfl,hx,j⟩;have ab:wD f.X f.R _ w2:=.GV j;replace a:=H (show Lw f w (.slice none 0 0) [] (c.takeC n) w2 from a.call (a.cn.I8 hx ab) (.Hr ab));clear hx j ab;generalize hd:c.takeC n=d at a K g b2 u;clear hd;obtain⟨S,hS⟩:∃S,S=c.bx.nB n:=⟨_,Z⟩;rw[<-hS]at r g|-;have b3:=H hS;clear hS;go_wp2_with fail;refine(cP f d _ a.cn).mono ?_;rintro e w3⟨rfl,m⟩;replace a:=H (a.oz m);clear m;by_cases V:d.reached=true
 ·have b5:=V;have b4:=H V;clear V;have U:=a.cn.cell 11 f.X Z;go_wp2_with fail;clear U;refine(lv f.X f.R 0 d.bx _ a.cn.bx K.bx).mono ?_;rintro e w4⟨rfl,rfl⟩;replace a:=H (a.oz (L3 _ _).drew);generalize A:World.drew _=w5 at a|-;clear A;clear b5;by_cases y:d.bx.nx-d.bx.rd=0
  focus
   have bn:((d.bx.nx-d.bx.rd)==0)=true:=Mb.2 y;have L:=H (show c.qF n=true by rw[b2.o,b4.o,Lc y];rfl);clear y;have P:=l;by_cases k:S=[]
   ·have a9:=H k;subst k;replace g:=H (g.trans (by rw[L7 Z]));go_wp2_with fail;refine(bV f d _ a.cn).mono ?_;rintro e w6⟨rfl,m⟩;replace a:=H (a.oz m);clear m;by_cases hz:d.st=0
    focus
     have M:=H hz;have B:decide (d.st=0)=true:=Lc hz;clear hz;have p:=H (show c.nF n=0 by unfold Cn.nF;rw[L5 J4,L5 (fun h=>by have:=L.symm.trans h.2.2;cases this)])
    rotate_left 1
    focus
     have M:=H hz;have B:decide (d.st=0)=false:=Lf hz;clear hz;have p:=H (show c.nF n=0 by unfold Cn.nF;rw[L5 J4,L5 (fun h=>M.o (u.1.trans h.2.1))])
    all_goals
     replace i:=H (i.trans ((L7 (show c.nF n=0 from p.o)).trans L.o));replace l:=H (P.trans p.o);go_wp2_with fail
     (try simp only[Exit.inBlock,Exit.then])
     refine Lm (bC Z _ _ _) Z ?_;exact⟨_,IZ,J2,J3,a.ch⟩
  rotate_left 1
  focus
   have bn:((d.bx.nx-d.bx.rd)==0)=false:=Ll.2 y;have L:=H (show c.qF n=false by rw[b2.o,b4.o,Lf y];rfl);clear y;have P:=l;by_cases k:S=[]
   ·have a9:=H k;subst k;replace g:=H (g.trans (by rw[L7 Z]));go_wp2_with fail;refine(bV f d _ a.cn).mono ?_;rintro e w6⟨rfl,m⟩;replace a:=H (a.oz m);clear m;by_cases hz:d.st=0
    ·have M:=H hz;have B:decide (d.st=0)=true:=Lc hz;clear hz;have p:=H (show c.nF n=c.failure by unfold Cn.nF;rw[L5 J4,L7 ⟨b3.symm,u.1.symm.trans M.o,L.o⟩]);have b6:=H (show c.failure≠0 by unfold Cn.failure;split;assumption;decide);replace i:=H (i.trans (L5 (by rw[p.o];exact b6.o)));replace l:=H (P.trans (p.trans u.2.symm));go_wp2_with fail;refine(iD f d _ a.cn).mono ?_;rintro e w7⟨rfl,m⟩;replace a:=H (a.oz m);clear m;go_wp2_with fail
     (try simp only[Exit.inBlock,Exit.then])
     refine Lm (bC Z _ _ _) Z ?_;exact⟨_,IZ,J2,J3,a.ch⟩
    have M:=H hz;have B:decide (d.st=0)=false:=Lf hz;clear hz;have p:=H (show c.nF n=0 by unfold Cn.nF;rw[L5 J4,L5 (fun h=>M.o (u.1.trans h.2.1))]);replace i:=H (i.trans ((L7 (show c.nF n=0 from p.o)).trans L.o));replace l:=H (P.trans p.o);go_wp2_with fail
    (try simp only[Exit.inBlock,Exit.then])
    refine Lm (bC Z _ _ _) Z ?_;exact⟨_,IZ,J2,J3,a.ch⟩
  all_goals
   obtain⟨b,S',rfl⟩:=List.exists_cons_of_ne_nil k;clear k;replace g:=H (g.trans (by rw[L5 (List.cons_ne_nil b S')]));have p:=H (show c.nF n=0 by unfold Cn.nF;rw[L5 J4,L5 (fun h=>by have:=b3.trans h.1;cases this)]);replace i:=H (i.trans ((L7 (show c.nF n=0 from p.o)).trans L.o));replace l:=H (P.trans p.o);go_wp2_with fail;refine az (fun W:World=>W.cell? ⟨f.C,7,none⟩=some (d.gi:Y)) (a.cn.cell 7 d.gi Z) fun T=>?_;replace a:=H (a.oz (L3 _ _).drew);generalize A:World.drew _=Ie at a T|-;clear A;refine aA 0 1 2 3 ?_;refine aA 4 5 6 7 ?_;refine aZ 8 fun Kq E=> ?_;go_simp;refine(iC f d d.gi _ a.cn K.bx (by have:=K.ann;omega) (by have:=K.room;omega)).mono ?_;rintro e w8⟨rfl,m⟩;replace a:=H (a.oz m);clear m;go_simp;refine E.out _ _ (a.cn.cell 7 d.gi Z) ?_;clear E Kq T;refine fun T=>aW ?_;refine aA 9 10 11 12 ?_;refine aQ 13 ?_;refine ay ?_ _;clear T;by_cases G:d.tE d.gi=true
   ·have x:=G;have HG:=H G;clear G;have a6:=a.cn.cell 28 d.st Z;go_wp2_with fail;clear a6 x;refine(bJ d.st _).mono ?_;rintro e w9⟨rfl,rfl⟩;by_cases I:aV d.st=true
    ·have al:jr d.st=true:=I;replace g:=H (g.trans KR);clear I;go_wp2_with fail;refine(cK f d _ a.cn).mono ?_;rintro e w9⟨rfl,J,j⟩;replace a:=H (a.call J j);clear J j;go_wp2_with fail;refine(aq f d.gB now _ a.cn K.gB HN.o).mono ?_;rintro e wz⟨v,rfl,y,J,j⟩;have HL:=H (aL.low y a.ch.size);have a4:=H J;have a5:=H (a.ch.trans j);clear y J j;go_wp2_with fail
     (try simp only[Exit.inBlock,Exit.then])
     refine Lm (bC Z _ _ _) Z ?_;exact⟨_,IZ,by rw[g.o];exact HL.o,by rw[g.o];exact a4.o,a5.o⟩
    have al:jr d.st=false:=KT
    replace g:=H (g.trans (by rw[L7 (.inr (show aV d.st=false from al))]));clear I;go_wp2_with fail
    (try simp only[Exit.inBlock,Exit.then])
    refine Lm (bC Z _ _ _) Z ?_;exact⟨_,IZ,J2,J3,a.ch⟩
   have x:d.tE d.gi=false:=by simpa using G
   replace g:=H (g.trans (by rw[L7 (.inl x)]));clear G;go_wp2_with fail
   (try simp only[Exit.inBlock,Exit.then])
   refine Lm (bC Z _ _ _) Z ?_;exact⟨_,IZ,J2,J3,a.ch⟩
 have b5:d.reached=false:=by simpa using V
 have b4:=H b5;clear V;have L:=H (show c.qF n=false by rw[b2.o,b4.o];rfl);have P:=l;by_cases k:S=[]
 ·have a9:=H k;subst k;replace g:=H (g.trans (by rw[L7 Z]));go_wp2_with fail;refine(bV f d _ a.cn).mono ?_;rintro e w6⟨rfl,m⟩;replace a:=H (a.oz m);clear m;by_cases hz:d.st=0
  ·have M:=H hz;have B:decide (d.st=0)=true:=Lc hz;clear hz;have p:=H (show c.nF n=c.failure by unfold Cn.nF;rw[L5 J4,L7 ⟨b3.symm,u.1.symm.trans M.o,L.o⟩]);have b6:=H (show c.failure≠0 by unfold Cn.failure;split;assumption;decide);replace i:=H (i.trans (L5 (by rw[p.o];exact b6.o)));replace l:=H (P.trans (p.trans u.2.symm));go_wp2_with fail;refine(iD f d _ a.cn).mono ?_;rintro e w7⟨rfl,m⟩;replace a:=H (a.oz m);clear m;go_wp2_with fail
   (try simp only[Exit.inBlock,Exit.then])
   refine Lm (bC Z _ _ _) Z ?_;exact⟨_,IZ,J2,J3,a.ch⟩
  have M:=H hz;have B:decide (d.st=0)=false:=Lf hz;clear hz;have p:=H (show c.nF n=0 by unfold Cn.nF;rw[L5 J4,L5 (fun h=>M.o (u.1.trans h.2.1))]);replace i:=H (i.trans ((L7 (show c.nF n=0 from p.o)).trans L.o));replace l:=H (P.trans p.o);go_wp2_with fail
  (try simp only[Exit.inBlock,Exit.then])
  refine Lm (bC Z _ _ _) Z ?_;exact⟨_,IZ,J2,J3,a.ch⟩
 obtain⟨b,S',rfl⟩:=List.exists_cons_of_ne_nil k;clear k;replace g:=H (g.trans (by rw[L5 (List.cons_ne_nil b S')]));have p:=H (show c.nF n=0 by unfold Cn.nF;rw[L5 J4,L5 (fun h=>by have:=b3.trans h.1;cases this)]);replace i:=H (i.trans ((L7 (show c.nF n=0 from p.o)).trans L.o));replace l:=H (P.trans p.o);go_wp2_with fail;refine az (fun W:World=>W.cell? ⟨f.C,7,none⟩=some (d.gi:Y)) (a.cn.cell 7 d.gi Z) fun T=>?_;replace a:=H (a.oz (L3 _ _).drew);generalize A:World.drew _=Ie at a T|-;clear A;refine aA 0 1 2 3 ?_;refine aA 4 5 6 7 ?_;refine aZ 8 fun Kq E=> ?_;go_simp;refine(iC f d d.gi _ a.cn K.bx (by have:=K.ann;omega) (by have:=K.room;omega)).mono ?_;rintro e w8⟨rfl,m⟩;replace a:=H (a.oz m);clear m;go_simp;refine E.out _ _ (a.cn.cell 7 d.gi Z) ?_;clear E Kq T;refine fun T=>aW ?_;refine aA 9 10 11 12 ?_;refine aQ 13 ?_;refine ay ?_ _;clear T;by_cases G:d.tE d.gi=true
 ·have x:=G;have HG:=H G;clear G;have a6:=a.cn.cell 28 d.st Z;go_wp2_with fail;clear a6 x;refine(bJ d.st _).mono ?_;rintro e w9⟨rfl,rfl⟩;by_cases I:aV d.st=true
  ·have al:jr d.st=true:=I;replace g:=H (g.trans KR);clear I;go_wp2_with fail;refine(cK f d _ a.cn).mono ?_;rintro e w9⟨rfl,J,j⟩;replace a:=H (a.call J j);clear J j;go_wp2_with fail;refine(aq f d.gB now _ a.cn K.gB HN.o).mono ?_;rintro e wz⟨v,rfl,y,J,j⟩;have HL:=H (aL.low y a.ch.size);have a4:=H J;have a5:=H (a.ch.trans j);clear y J j;go_wp2_with fail
   (try simp only[Exit.inBlock,Exit.then])
   refine Lm (bC Z _ _ _) Z ?_;exact⟨_,IZ,by rw[g.o];exact HL.o,by rw[g.o];exact a4.o,a5.o⟩
  have al:jr d.st=false:=KT
  replace g:=H (g.trans (by rw[L7 (.inr (show aV d.st=false from al))]));clear I;go_wp2_with fail
  (try simp only[Exit.inBlock,Exit.then])
  refine Lm (bC Z _ _ _) Z ?_;exact⟨_,IZ,J2,J3,a.ch⟩
 have x:d.tE d.gi=false:=by simpa using G
 replace g:=H (g.trans (by rw[L7 (.inl x)]));clear G;go_wp2_with fail
 (try simp only[Exit.inBlock,Exit.then])
 refine Lm (bC Z _ _ _) Z ?_;exact⟨_,IZ,J2,J3,a.ch⟩
end
section
open Go.RowKit Go.Shelf
def pm (f:Fp)(s:Sd):List Value:=[f.C,.string ⟨s.all.toArray⟩,s.sent,.string ⟨s.got.toArray⟩,s.fin,s.closed]
def rU (F:Nat)(f:Fp)(s:Sd)(W:World):Prop:=W.heap[F]? =some (.cells (pm f s).toArray 34 (0,0))
theorem rU.lt {F:Nat}{f:Fp}{s:Sd}{W:World}(h:rU F f s W):F<W.heap.size:=(L6.1 h).1
theorem rU.cell {F:Nat}{f:Fp}{s:Sd}{W:World}(h:rU F f s W)(i:Nat)(v:Value)(a:(pm f s)[i]? =some v):W.cell? ⟨F,i,none⟩=some v:=by
 rw[Ln _ _ _ _ _ _ h]
 simpa using a
structure Ps (N:Nat)(t:Ft)(w:World)(F:Nat)(f:Fp)(s:Sd)(t1:Ft)(q:Pr)(W:World):Prop where
 st:pE N t w t1 q W
 row:rU F f s W
 nd:¬t1.D F
 lo:w.heap.size<=F
namespace Ps
variable {N F : Nat} {f : Fp} {s : Sd} {t t1 t2 : Ft} {q q' : Pr} {w W W' : World}
theorem new (h:pE N t w t1 q W)(f:Fp)(s:Sd):Ps N t w W.heap.size f s t1 q (W.alloc (.cells (pm f s).toArray 34)) :=
 ⟨h.oz ((L3 W.heap.size W).alloc (L4 _) _),Lp _ _,fun e=>MD _ (h.pa.Gz _ e).1,h.size⟩
theorem oz (h:Ps N t w F f s t1 q W)(a:Below W.heap.size W W'):Ps N t w F f s t1 q W':=⟨h.st.oz a,(a.block F h.row.lt).trans h.row,h.nd,h.lo⟩
theorem step (h:Ps N t w F f s t1 q W)(k:pE N t1 W t2 q' W'):Ps N t w F f s t2 q' W' :=
 ⟨h.st.trans k,(k.fr.block F h.row.lt h.nd).trans h.row,fun e=>by
  rcases k.sub F e with h1 | h1
  ·exact h.nd h1
  ·exact MD _ (Lb h.row.lt h1),h.lo⟩
theorem set (h:Ps N t w F f s t1 q W)(i:Nat)(v:Value)(q':Pr)(he:(dm t1 q).setIfInBounds i v=dm t1 q')(d:q'.a.c=q.a.c)(e:q'.b.c=q.b.c)(g:q'.wire=q.wire)(j:q'.log=q.log)(k:q'.kq=q.kq):Ps N t w F f s t1 q' (W.setCell ⟨t.B,i,none⟩ v):=by
 rw[<-h.st.eB];exact h.step (h.st.pa.set i v q' he d e g j k)
end Ps
theorem im (p:Pr)(i:Bool){c:Cn}(h:c=(p.sd i).c):p.ro i c=p:=by subst h;cases i <;> rfl
end
section
set_option maxHeartbeats 8000000
set_option maxRecDepth 100000
open Go.RowKit Go.Shelf
theorem iK (N:Nat) (t:Ft) (p:Pr) (i:Bool) (w:World) (q r:Int) (h:tT N t p w) (k:Pr.Fit p q r) (hq:q<=90000000) (hr:r<=248800000000) (hm:p.Ml) :
  Calls Tryz.prog 21 #[t.B,(bI i)] w (lA N t w (p.shut i)):=by
 cases i
 ·have S:w.cell? t.B=some (t.fa.C:Y):=h.cell 0 _ Z;have T:w.cell? ⟨t.B,1,none⟩=some (.string ⟨p.a.all.toArray⟩):=h.cell 1 _ Z;have U:w.cell? ⟨t.B,2,none⟩=some (p.a.sent:Y):=h.cell 2 _ Z;have V:w.cell? ⟨t.B,3,none⟩=some (.string ⟨p.a.got.toArray⟩):=h.cell 3 _ Z;have y4:w.cell? ⟨t.B,4,none⟩=some (p.a.fin:Y):=h.cell 4 _ Z;have y5:w.cell? ⟨t.B,5,none⟩=some (p.a.closed:Y):=h.cell 5 _ Z;have ac:=H k.zu;have b7:=H (Pr.DH k false);have b8:=H k.a.c;have b9:=H hm;have ba:=H k.E0;have ad:=H k.now;have A:=H h;show Calls _ _ #[t.B,(0:Int)] _ _;clear h k hm;obtain⟨R,y⟩:∃R,R=p.shut false:=⟨_,Z⟩;rw[<-y];have z:=H y;clear y
  go_enter Tryz.func21,Tryz.ntmps21
  by_cases g:p.a.closed=true
  ·go_wp2_with fail;refine Lm (LV Z _ _ _) Z ⟨Z,t,?_⟩;rw[z.o];have e:p.shut false=p:=by unfold Pr.shut;exact L7 g
   rw[e];exact A.alloc _
  replace g:p.a.closed=false:=Ji
  go_wp2_with fail;clear S T U V y4 y5;change Code.wp _ _ _ _ (w.alloc (.cells (pm t.fa ({ p.a with closed:=false }:Sd)).toArray 34));have d:=H (Ps.new (pE.start A.o) t.fa ({ p.a with closed:=false }:Sd));generalize hF:w.heap.size=F at d|-;generalize w.alloc (.cells (pm t.fa ({ p.a with closed:=false }:Sd)).toArray 34)=w1 at d|-;have an:=H g;clear g;refine az (fun W:World=>W.cell? F=some (t.fa.C:Y)/\W.cell? ⟨t.B,13,none⟩=some (p.now:Y)) (⟨d.row.cell 0 _ Z,d.st.cell 13 p.now Z⟩) fun u=>?_;replace d:=H (d.oz (L3 _ _).drew);generalize w1.drew=w3 at d u|-;refine aA 0 1 2 3 ?_;refine aM 4 5 ?_;refine aZ 6 fun Kq m=> ?_;go_simp;refine(nH t.fa p.a.c p.now _ d.st.pa.a b8.o ac.o).mono ?_;rintro e E⟨v,rfl,I,J,n⟩;have K:=d.st.pa.G2 false t.fa.G _ J n (.inl Z);replace d:=H (d.step K);have bb:=H I;clear I J n K;dsimp only[lD];go_simp;refine m.out _ _ (⟨d.row.cell 0 _ Z,d.st.cell 13 p.now Z⟩) ?_;clear m Kq u;refine fun u=>aW ?_;refine aA 7 8 9 10 ?_;refine aQ 11 ?_;refine ay ?_ _;clear u;by_cases he:p.a.c.te=0
  ·have L:=H (show p.shut false=(p.kd false { p.a with c:=(p.a.c.close p.now).1,closed:=true }).put false (p.a.c.close p.now).2 from by unfold Pr.shut;dsimp only;rw[L5 (by show ¬(p.a.closed=true);rw[an.o];decide),L5 (show ¬(p.sd false).c.te≠0 from fun hh=>hh he)];rfl);have c5:E.cell? ⟨t.B,5,none⟩=some (p.a.closed:Y):=d.st.cell 5 _ Z;have f5:=d.st.free 5;have x:=H (d.set 5 true (p.kd false { p.a with c:=(p.a.c.close p.now).1,closed:=true }) Z Z Z Z Z Z);go_wp2_with fail;clear c5 f5;generalize M:E.setCell ⟨t.B,5,none⟩ true=w5 at x|-;have ag:=H (show aL w5 _ v _ from by rw[<-M];exact bb.Ep d.st.pa (by rw[<-d.st.eB];exact(d.st.pa.set 5 true (p.kd false { p.a with c:=(p.a.c.close p.now).1,closed:=true }) Z Z Z Z Z Z).fr));clear M;have ak:=H (eJ (X:=p.kd false { p.a with c:=(p.a.c.close p.now).1,closed:=true }) (i:=false) (l:=(p.a.c.close p.now).2) (by rw[<-L.o];exact b7.o) (by have:=ba.o;show p.wire.length<=400000000;omega) (b9.kd false _) O);have P:=cO N _ _ false _ v _ _ x.st.pa ag.o ak.1 ak.2.1 ak.2.2 ad.o;rw[x.st.eB,show bI false=0 from Z]at P;refine P.mono ?_;rintro e w6⟨rfl,t6,k6⟩;go_wp2_with fail
   go_end0
   exact⟨Z,t6,by rw[z.o,L.o];exact x.st.trans k6⟩
  have j:¬p.a.c.te=0:=he;go_wp2_with fail
  go_end0
  have e1:(p.a.c.close p.now).1=p.a.c:=KU
  have e2:p.shut false=p:=by unfold Pr.shut;dsimp only;rw[L5 (by show ¬(p.a.closed=true);rw[an.o];decide),L7 (show(p.sd false).c.te≠0 from j)]
  refine⟨Z,?_⟩;rw[z.o,e2];have:=d.st;rw[im p false (show(p.a.c.close p.now).1=(p.sd false).c from e1)]at this;exact⟨_,this⟩
 have S:w.cell? ⟨t.B,6,none⟩=some (t.fb.C:Y):=h.cell 6 _ Z;have T:w.cell? ⟨t.B,7,none⟩=some (.string ⟨p.b.all.toArray⟩):=h.cell 7 _ Z;have U:w.cell? ⟨t.B,8,none⟩=some (p.b.sent:Y):=h.cell 8 _ Z;have V:w.cell? ⟨t.B,9,none⟩=some (.string ⟨p.b.got.toArray⟩):=h.cell 9 _ Z;have y4:w.cell? ⟨t.B,10,none⟩=some (p.b.fin:Y):=h.cell 10 _ Z;have y5:w.cell? ⟨t.B,11,none⟩=some (p.b.closed:Y):=h.cell 11 _ Z;have ac:=H k.zu;have b7:=H (Pr.DH k true);have b8:=H k.b.c;have b9:=H hm;have ba:=H k.E0;have ad:=H k.now;have A:=H h;show Calls _ _ #[t.B,(1:Int)] _ _;clear h k hm;obtain⟨R,y⟩:∃R,R=p.shut true:=⟨_,Z⟩;rw[<-y];have z:=H y;clear y
 go_enter Tryz.func21,Tryz.ntmps21
 by_cases g:p.b.closed=true
 ·go_wp2_with fail;refine Lm (LV Z _ _ _) Z ⟨Z,t,?_⟩;rw[z.o];have e:p.shut true=p:=by unfold Pr.shut;exact L7 g
  rw[e];exact A.alloc _
 replace g:p.b.closed=false:=Ji
 go_wp2_with fail;clear S T U V y4 y5;change Code.wp _ _ _ _ (w.alloc (.cells (pm t.fb ({ p.b with closed:=false }:Sd)).toArray 34));have d:=H (Ps.new (pE.start A.o) t.fb ({ p.b with closed:=false }:Sd));generalize hF:w.heap.size=F at d|-;generalize w.alloc (.cells (pm t.fb ({ p.b with closed:=false }:Sd)).toArray 34)=w1 at d|-;have an:=H g;clear g;refine az (fun W:World=>W.cell? F=some (t.fb.C:Y)/\W.cell? ⟨t.B,13,none⟩=some (p.now:Y)) (⟨d.row.cell 0 _ Z,d.st.cell 13 p.now Z⟩) fun u=>?_;replace d:=H (d.oz (L3 _ _).drew);generalize w1.drew=w3 at d u|-;refine aA 0 1 2 3 ?_;refine aM 4 5 ?_;refine aZ 6 fun Kq m=> ?_;go_simp;refine(nH t.fb p.b.c p.now _ d.st.pa.b b8.o ac.o).mono ?_;rintro e E⟨v,rfl,I,J,n⟩;have K:=d.st.pa.G2 true t.fb.G _ J n (.inl Z);replace d:=H (d.step K);have bb:=H I;clear I J n K;dsimp only[lD];go_simp;refine m.out _ _ (⟨d.row.cell 0 _ Z,d.st.cell 13 p.now Z⟩) ?_;clear m Kq u;refine fun u=>aW ?_;refine aA 7 8 9 10 ?_;refine aQ 11 ?_;refine ay ?_ _;clear u;by_cases he:p.b.c.te=0
 ·have L:=H (show p.shut true=(p.kd true { p.b with c:=(p.b.c.close p.now).1,closed:=true }).put true (p.b.c.close p.now).2 from by unfold Pr.shut;dsimp only;rw[L5 (by show ¬(p.b.closed=true);rw[an.o];decide),L5 (show ¬(p.sd true).c.te≠0 from fun hh=>hh he)];rfl);have c5:E.cell? ⟨t.B,11,none⟩=some (p.b.closed:Y):=d.st.cell 11 _ Z;have f5:=d.st.free 11;have x:=H (d.set 11 true (p.kd true { p.b with c:=(p.b.c.close p.now).1,closed:=true }) Z Z Z Z Z Z);go_wp2_with fail;clear c5 f5;generalize M:E.setCell ⟨t.B,11,none⟩ true=w5 at x|-;have ag:=H (show aL w5 _ v _ from by rw[<-M];exact bb.Ep d.st.pa (by rw[<-d.st.eB];exact(d.st.pa.set 11 true (p.kd true { p.b with c:=(p.b.c.close p.now).1,closed:=true }) Z Z Z Z Z Z).fr));clear M;have ak:=H (eJ (X:=p.kd true { p.b with c:=(p.b.c.close p.now).1,closed:=true }) (i:=true) (l:=(p.b.c.close p.now).2) (by rw[<-L.o];exact b7.o) (by have:=ba.o;show p.wire.length<=400000000;omega) (b9.kd true _) O);have P:=cO N _ _ true _ v _ _ x.st.pa ag.o ak.1 ak.2.1 ak.2.2 ad.o;rw[x.st.eB,show bI true=1 from Z]at P;refine P.mono ?_;rintro e w6⟨rfl,t6,k6⟩;go_wp2_with fail
  go_end0
  exact⟨Z,t6,by rw[z.o,L.o];exact x.st.trans k6⟩
 have j:¬p.b.c.te=0:=he;go_wp2_with fail
 go_end0
 have e1:(p.b.c.close p.now).1=p.b.c:=KU
 have e2:p.shut true=p:=by unfold Pr.shut;dsimp only;rw[L5 (by show ¬(p.b.closed=true);rw[an.o];decide),L7 (show(p.sd true).c.te≠0 from j)]
 refine⟨Z,?_⟩;rw[z.o,e2];have:=d.st;rw[im p true (show(p.b.c.close p.now).1=(p.sd true).c from e1)]at this;exact⟨_,this⟩
end
end Go.Proofs.YtcmncipikdpnbaaGreatDoor
