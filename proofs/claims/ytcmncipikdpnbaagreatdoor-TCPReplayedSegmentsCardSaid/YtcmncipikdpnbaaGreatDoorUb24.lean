import Derived.Test.YtcmncipikdpnbaaGreatDoorUb23
namespace Go.Proofs.YtcmncipikdpnbaaGreatDoor
section
set_option maxHeartbeats 8000000
set_option maxRecDepth 100000
open Go.RowKit Go.Shelf
attribute [local go_sem] Oper.semAt_some
def eA (f:Fp)(w:World)(L:List Sg)(d:Cn)(e:Ending)(w':World):Prop:=∃v,e= .returned v/\aL w' w.heap.size v L/\kn f d w'/\ot f w w'
theorem nU (f:Fp) (c:Cn) (now:Int) (w:World) (h:kn f c w) (ok:c.Ok) (hn:aI now) :
  Calls Tryz.prog 87 #[f.C,now] w (eA f w (c.qb now).2 (c.qb now).1):=by
 have g5:=h.gl.top;have HO:=H ok;have i:=((((L5 w.heap.size w).alloc (L6 _) (.cells #[f.C] 32)).alloc IK (.cells #[now] 3)).alloc IM (.cells #[.slice none 0 0] 44))
 have HP:=H (show Pd f now w c [] (((w.alloc (.cells #[f.C] 32)).alloc (.cells #[now] 3)).alloc (.cells #[.slice none 0 0] 44))from by
  have b1:=Cy.new w f.C 32;have b2:=Cy.new (w.alloc (.cells #[f.C] 32)) now 3;have b3:=Cy.new ((w.alloc (.cells #[f.C] 32)).alloc (.cells #[now] 3)) (.slice none 0 0) 44;rw[M1]at b2 b3;rw[M1]at b3;have e1:=(L5 (w.alloc (.cells #[f.C] 32)).heap.size (w.alloc (.cells #[f.C] 32))).alloc (L6 _) (.cells #[now] 3);have e2:=(L5 ((w.alloc (.cells #[f.C] 32)).alloc (.cells #[now] 3)).heap.size ((w.alloc (.cells #[f.C] 32)).alloc (.cells #[now] 3))).alloc (L6 _) (.cells #[.slice none 0 0] 44);exact⟨h.below i,ok,(b1.below e1).below e2,b2.below e2,⟨_,b3,aL.nil _ _⟩,.Da i,g5⟩)
 clear i h ok;refine(ME (n:=4)).1 ?_;refine callsIn_of_wp_marks Tryz.func87 Z trivial ?_ Z;simp only[Tryz.ntmps87,LJ,LC,M4,Nat.reduceAdd,Nat.reduceSub,Mb,Ma,Mp,Mi,LG,LT];refine Mc.2 ?_;have cC:=HP.bc.cell;go_wp2_with fail
 go_step3
 go_wp2_with fail;refine wp_label ?_;go_wp2_with fail;change Calls _ _ _ (((w.alloc (.cells #[f.C] 32)).alloc (.cells #[now] 3)).alloc (.cells #[.slice none 0 0] 44)) _;generalize ((w.alloc (.cells #[f.C] 32)).alloc (.cells #[now] 3)).alloc (.cells #[.slice none 0 0] 44)=w1 at HP cC|-;refine(yD f _).mono ?_;rintro e w2⟨rfl,rfl⟩;have i:=(L5 w1.heap.size w1).alloc (L6 _) (.cells #[f.C] 32);have h5:=HP.size;have cF:=H (Cy.new w1 f.C 32);replace HP:=H (HP.below i);have g6:=HP.size;clear i cC;generalize w1.alloc (.cells #[f.C] 32)=w2 at HP cF g6|-;obtain⟨R,hR⟩:∃R,R=oi (c.flight.toNat+1) c []:=⟨_,Z⟩;have HR:=H hR;clear hR;have da:=H (pN HO.o);have hI:=(show I1 f now w w1.heap.size R (c,[]) w2 from⟨HP.o,cF.o,by have:=da.o;unfold iH;simp;omega,_,jt HO.o,HR.symm⟩);go_wp2_with fail;refine(Mc (n:=4)).1 ?_;refine AC O Prod.fst (fun s=>iH s.1) Z Z (I1 f now w w1.heap.size R) (fun _ _=>False) (BO O) (fun _ _ _ _ h=>h.elim) (fun s W h=>⟨h.1.cn,h.1.ok,h.2.1.cell⟩) (fun s W W' h i=>yB h i) (c,[]) hI ?round ?done (fun _ _ _ _ h=>h.elim)
 case round =>
  intro l s x t W hl g7 b7 hp d8;obtain⟨al,hB,hlen,k,hk,bo⟩:=b7;obtain⟨cs,g8,f0,h6,h7,em⟩:=pO al.ok d8;have ax:=H al;have cM:=H al.ok;have HB:=H hB;have dc:=H d8;have di:=H hp;have dk:=H cs;have en:=H f0;have dn:=H bo;clear al hB d8 hp cs f0 bo hI HP cF
  gi_wp2
  refine⟨(KeepsOthers.alloc _ _).from _,fun _ W2=>Pd f now w s.1 s.2 W2/\Cy w1.heap.size f.C 32 W2/\W2.heap[W.heap.size]? =some (.cells #[x.1,(aK s.1.go x).2] 149 (0,0)),?_,?_,?_⟩
  ·intro _ A A' row h hg hr;exact⟨h.1.marks hg (fun r e=>⟨by have:=(hr r e).1;omega,(hr r e).2⟩),h.2.1.marks hg (fun r e=>(hr r e).2),(hg.block _ (L8.1 h.2.2).1 (fun e=>by obtain⟨-,o,ho,X⟩:=hr _ e.symm;rw[h.2.2]at ho;cases ho;cases X)).trans h.2.2⟩
  ·have i:=(L5 W.heap.size W).alloc (L6 _) (.cells #[x.1,(aK s.1.go x).2] 149);exact⟨ax.below i,HB.below i,Ls _ _⟩
  rintro W2⟨d9,f4,c8⟩;have cC:=d9.bc.cell;have x0:W2.cell? W.heap.size=some (x.1:Y):=by rw[Lq _ _ _ _ _ _ c8];rfl
  have x1:W2.cell? ⟨W.heap.size,1,none⟩=some ((aK s.1.go x).2:Y):=by rw[Lq _ _ _ _ _ _ c8];rfl
  have b8:=H d9;have cw:=H f4;have cY:=H c8;clear d9 f4 c8 ax HB
  gi_wp2
  refine⟨trivial,(CallsIn.inRound l (ME.2 (iB f s.1 x.1 (aK s.1.go x).2 W2 b8.cn b8.ok O O))).mono ?_⟩;rintro e W3⟨a,g,rfl,b5,X,p⟩;unfold dY;have f5:=br b8.cn p w2.heap.size;have dT:=H f5;have am:=H ((b8.cn.ys p W.heap.size ⟨_,_,cY.o⟩).trans cY.o);have an:=H (cw.xs b8.cn p D D D D D D);have B:=H (b8.step X b8.ok.tq p);have F:=H b5;clear f5 X p b5 b8 cw cY cC x0 x1;have c2:=(L5 W3.heap.size W3).alloc (L6 _) (.cells (aX (s.1.nB x.1 (aK s.1.go x).2,a,g)).toArray 53);have HG:=H (aS.new W3 (s.1.nB x.1 (aK s.1.go x).2,a,g));have c0:=H (KeepsFrom.trans dT.o ((KeepsOthers.alloc W3 (.cells (aX (s.1.nB x.1 (aK s.1.go x).2,a,g)).toArray 53)).from _));replace am:=H ((c2.block _ (L8.1 am.o).1).trans am.o);replace an:=H (an.below c2);replace B:=H (B.below c2);replace F:=H (F.keep c2.size (.below c2));clear c2 dT
  gi_wp2
  change Code.wpIn _ _ _ _ _ _ (W3.alloc (.cells (aX (s.1.nB x.1 (aK s.1.go x).2,a,g)).toArray 53));generalize dp:W3.heap.size=SB at HG|-;generalize W3.alloc (.cells (aX (s.1.nB x.1 (aK s.1.go x).2,a,g)).toArray 53)=W4 at HG c0 am an B F|-;clear dp;have hK:=(show(fun W':World=>W'.cell? w.heap.size=some (f.C:Y)/\W'.cell? f.C=some (f.S:Y)/\W'.cell? W.heap.size=some (x.1:Y)/\W'.cell? ⟨W.heap.size,1,none⟩=some ((aK s.1.go x).2:Y)) W4 from⟨B.bc.cell,B.cn.cell 0 _ Z,JS,JS⟩);refine cc (S:=(fun W':World=>W'.cell? w.heap.size=some (f.C:Y)/\W'.cell? f.C=some (f.S:Y)/\W'.cell? W.heap.size=some (x.1:Y)/\W'.cell? ⟨W.heap.size,1,none⟩=some ((aK s.1.go x).2:Y))) O IL IL hK (fun q=> ?_);have bd:=(L5 W4.heap.size W4).drew;have c3:=H (KeepsFrom.trans c0.o (show KeepsFrom w2.heap.size W4 W4.drew from⟨L6 _,fun _ _ _ h _=>h⟩));replace am:=H ((bd.block _ (L8.1 am.o).1).trans am.o);replace an:=H (an.below bd);replace B:=H (B.below bd);replace F:=H (F.keep bd.size (.below bd));replace HG:=H (HG.below bd);clear bd hK c0;generalize W4.drew=W5 at c3 am an B F HG q|-;refine aA 0 1 2 3 ?_;refine aM 4 5 ?_;refine aY 6 fun E d=> ?_;go_simp;refine(iq f.S (f.S+1) s.1.tq.sc x.1 (aK s.1.go x).2 _ B.ok.sc B.cn.sc).mono ?_;rintro e W6⟨rfl,f6,e7⟩;have J:=ot.F6 (f:=f) e7;have d0:=H (KeepsFrom.trans c3.o (br B.cn J w2.heap.size));replace am:=H ((B.cn.ys J W.heap.size ⟨_,_,am.o⟩).trans am.o);replace an:=H (an.xs B.cn J D D D D D D);replace F:=H (F.xs B.cn J);replace HG:=H (HG.xs B.cn J);replace B:=H (B.step (B.cn.G3 f6 e7) (B.ok.DH (B.ok.sc.ret _)) J);clear f6 e7 J c3;have he:s.1.tq.sc.Eh (x.1,(aK s.1.go x).2)=0:=dk.o;rw[he];clear he;go_simp;refine d.out _ _ (⟨B.bc.cell,B.cn.cell 0 _ Z,JS,JS⟩) ?_;clear d E q;refine fun q=>aW ?_;refine ay ?_ _;clear q;unfold BN;dsimp only;have cC:=B.bc.cell;have c1:=B.cn.cell 1 _ Z
  gi_wp2
  refine⟨trivial,(CallsIn.inRound l (ME.2 (qO f.T _ W6 B.cn.tm))).mono ?_⟩;rintro e W7⟨rfl,f7,e8⟩;have J:=ot.GL (f:=f) e8;have d1:=H (KeepsFrom.trans d0.o (br B.cn J w2.heap.size));replace an:=H (an.xs B.cn J D D D D D D);replace F:=H (F.xs B.cn J);replace HG:=H (HG.xs B.cn J);have b9:=H (show Pd f now w (zY s.1 x) s.2 W7 from B.step (B.cn.GM f7 e8) (B.ok.DY (Tm.A3 B.ok.tm)) J);clear f7 e8 J d0 B am cC c1;obtain⟨v,b6,M,hM,b0⟩:=b9.bl;have HM:=H hM;have z:=H b0;have G:=H b6;have cL:=b6.cell;clear hM b0 b6;obtain⟨⟨r0,r1,r2,r3,r4,r5,r6,r7,r8,r9,ds,dv,eB⟩,p0,p1,p2,p3,p4,p5,p6,p7,p8,p9,eC,eL,eS⟩:=(HG.o).facts;have e0:=b9.size
  gi_wp2
  have bI:=(L5 W7.heap.size W7).alloc (L6 _) (.cells (aX (s.1.nB x.1 (aK s.1.go x).2,a,g)).toArray 53);have c4:=H (KeepsFrom.trans d1.o ((KeepsOthers.alloc W7 (.cells (aX (s.1.nB x.1 (aK s.1.go x).2,a,g)).toArray 53)).from _));have HN:=H (bj (aS.new W7 (s.1.nB x.1 (aK s.1.go x).2,a,g)));replace b9:=H (b9.below bI);replace an:=H (an.below bI);replace F:=H (F.keep bI.size (.below bI));replace z:=H (z.below bI);replace G:=H (G.below bI);have e3:M.length=s.2.length:=by rw[<-HM.o,LM]
  change _/\CallsIn _ _ _ _ #[v,Value.slice (some ⟨W7.heap.size,0,none⟩) [((s.1.nB x.1 (aK s.1.go x).2,a,g):cP)].length 1] (W7.alloc (.cells (aX (s.1.nB x.1 (aK s.1.go x).2,a,g)).toArray 53)) _;generalize W7.heap.size=NB at HN|-;generalize W7.alloc (.cells (aX (s.1.nB x.1 (aK s.1.go x).2,a,g)).toArray 53)=I at HN b9 an F z G c4|-;clear bI cL HG d1 r0 p0 r1 p1 r2 p2 r3 p3 r4 p4 r5 p5 r6 p6 r7 p7 r8 p8 r9 p9 ds eC dv eL eB eS;refine⟨trivial,(CallsIn.inRound l (ME.2 (cN I (w.heap.size+3) v M z.o NB 0 1 [(s.1.nB x.1 (aK s.1.go x).2,a,g)] HN.o (fun y hy=>by rw[Ly.1 hy];exact F.o) IM (by have:=b9.size;omega)))).mono ?_⟩;rintro e W9⟨v',rfl,h1,h2,-⟩;obtain⟨a9,av,ba,-,-⟩:=h1.val;generalize (M++[(s.1.nB x.1 (aK s.1.go x).2,a,g)]).length=n9 at ba;subst ba;obtain⟨p9,k9⟩:=b9.emit HM.o z.o h1 h2;have aa:=G.grown h2 z.ty D;have ak:=(an.grown h2 z.ty D).other (show w1.heap.size≠w.heap.size+2 by omega) 0 (.slice a9 n9 av);have cS:=aa.cell;have cT:=aa.free;have j:=H p9;have U:=H ak;have L:=H (KeepsFrom.trans c4.o (show KeepsFrom w2.heap.size I _ from⟨k9.size,fun k o hB h ho=>k9.same k o O h ho⟩));clear p9 k9 aa ak h1 h2 HN b9 an F z G c4
  gi_wp2
  obtain⟨k0,rfl⟩:∃k0,k=k0+1:=⟨k-1,O⟩;exact⟨L.o,(zY s.1 x,s.2++[s.1.nB x.1 (aK s.1.go x).2]),g8,j.o,U.o,(show(s.2++[s.1.nB x.1 (aK s.1.go x).2]).length+iH (zY s.1 x)<=1099511627776 by rw[Lc,Mr];omega),k0,(show iH (zY s.1 x)<k0 by omega),by rw[<-dn.o];exact(jS cM.o di.o dc.o k0 s.2).symm⟩
 case done =>
  intro b W s hD b7 c6 bb;obtain⟨al,hB,hlen,k,hk,bo⟩:=b7;rw[jT c6]at bo;have ax:=H al;have e4:=H bo;have be:=H bb;clear al hB bo c6 hI HP cF bb;have d2:s.2.length<=1099511627776:=O
  clear hlen hk;have cC:=ax.bc.cell;have e5:=ax.size;have g9:=(L8.1 be.o).1;go_wp2_with fail;refine(vJ f _).mono ?_;rintro e w4⟨rfl,rfl⟩;have i:=(L5 W.heap.size W).alloc (L6 _) (.cells #[f.C] 32);have cV:=H (Cy.new W f.C 32);replace be:=H ((i.block b g9).trans be.o);replace ax:=H (ax.below i);have h3:W.heap.size<(W.alloc (.cells #[f.C] 32)).heap.size:=IK
  clear i cC;generalize W.alloc (.cells #[f.C] 32)=w4 at ax cV be h3|-;obtain⟨R2,f8⟩:∃R2,R2=Cb now (nA now (s.1.kc.toNat+1) s.1 s.2).1 (nA now (s.1.kc.toNat+1) s.1 s.2).2:=⟨_,Z⟩;have d3:=H f8;clear f8;have h8:=ax.ok.kc;have c5:I2 f now w W.heap.size R2 (s.1,s.2,false) w4/\w4.heap[b]? =some (.deferred (some [])):=⟨⟨ax.o,cV.o,(show s.2.length+s.1.kc.toNat+1<=1200000000000 by omega),by rw[L7 IK];exact⟨_,Nat.lt_succ_self _,d3.symm⟩⟩,be.o⟩;go_wp2_with fail;refine(Mc (n:=4)).1 ?_;refine yA O Prod.fst fT (fun s=>s.2.2=true) Z Z (fun s W'=>I2 f now w W.heap.size R2 s W'/\W'.heap[b]? =some (.deferred (some []))) ((BP O).and (fun _ _ _ _ h hg hr=>(hg.block b (L8.1 h).1 (fun e=>by have:=(hr b e.symm).1;omega)).trans h)) (fun s W' h=>⟨h.1.1.cn,h.1.1.ok,h.1.2.1.cell⟩) (fun s W' h9 h i=>⟨yC h.1 i,(i.block b (L8.1 h.2).1).trans h.2⟩) (s.1,s.2,false) c5 ?GX ?Hm
  case GX =>
   intro l s v W5 hl g7 b7 hv;obtain⟨⟨al,hB,hlen,c7⟩,bb⟩:=b7;have e9:=AD al.ok hv c7 (now:=now) (R:=R2);obtain⟨f1,f2,f3⟩:=mZ al.ok (now:=now) hv;have cX:=H e9;have cM:=H al.ok;have d4:=H (show(s.2.1++[s.1.kr v]).length+fT (s.1.out now v,s.2.1++[s.1.kr v],decide (v=0))+iZ (decide (v=0))<=1200000000000 from La e9.2.2 hlen);have d5:s.2.1.length<=1200000000000:=O
   have ax:=H al;have P:=H hB;have K:=H bb;clear al hB c7 e9 bb c5 cV be f3
   gi_wp2
   refine⟨KeepsFrom.refl _ _,fun _ W6=>Pd f now w s.1 s.2.1 W6/\Cy W.heap.size f.C 32 W6/\W6.heap[b]? =some (.deferred (some [])),?_,⟨ax.o,P.o,K.o⟩,?_⟩
   ·intro _ A A' row h hg hr;exact⟨h.1.marks hg (fun r e=>⟨by have:=(hr r e).1;omega,(hr r e).2⟩),h.2.1.marks hg (fun r e=>(hr r e).2),(hg.block b (L8.1 h.2.2).1 (fun e=>by have:=(hr b e.symm).1;omega)).trans h.2.2⟩
   rintro W6⟨f9,g0,g2⟩;have m:=H f9;replace P:=H g0;replace K:=H g2;clear f9 g0 g2 ax;obtain⟨u,b6,M,hM,b0⟩:=m.bl;have HM:=H hM;have z:=H b0;have G:=H b6;clear hM b0 b6;have e3:M.length=s.2.1.length:=by rw[<-HM.o,LM]
   have V:=H (KeepsFrom.refl w2.heap.size W6)
   gi_wp2
   have hK:=(show(fun W':World=>W'.cell? w.heap.size=some (f.C:Y)) W6 from m.bc.cell);refine cc (S:=(fun W':World=>W'.cell? w.heap.size=some (f.C:Y))) O IL IL hK (fun q=> ?_);clear hK;have i:=(L5 W6.heap.size W6).drew;replace m:=H (m.below i);replace P:=H (P.below i);replace K:=H ((i.block b (L8.1 K.o).1).trans K.o);replace z:=H (z.below i);replace G:=H (G.below i);replace V:=H (KeepsFrom.trans V.o ((show KeepsFrom w2.heap.size W6 W6.drew from⟨L6 _,fun _ _ _ h _=>h⟩)));clear i;generalize W6.drew=W7 at m P K z G V q|-;refine aM 1 2 ?_;refine wpAnyH_ready (rs:=[0,3]) IL IK ?_;refine AllReadyH.cons (by simp only[Lx,Lr];rfl) (fun E d=> ?_) (AllReadyH.cons (by simp only[Lx,Lv,Lr];rfl) (fun E d=> ?_) AllReadyH.nil)
   ·have cL:=G.cell;go_simp;refine d.out _ _ (m.bc.cell) ?_;clear d E q;refine fun q=>aW ?_;clear cL;refine aY 3 fun E d=> ?_;go_simp;refine(jR f s.1 v W7 m.cn m.ok O).mono ?_;rintro e I⟨a,g,rfl,b5,X,p⟩;replace V:=H (KeepsFrom.trans V.o (br m.cn p w2.heap.size));replace K:=H ((br m.cn p 0).same b _ (LZ _) K.o Z);replace P:=H (P.xs m.cn p D D D D D D);replace z:=H (z.xs m.cn p);replace G:=H (G.xs m.cn p D D D D D D);replace m:=H (m.step X (m.ok.qa v) p);have F:=H b5;clear b5 X p;unfold dY;go_simp;refine d.out _ _ (m.bc.cell) ?_;clear d E q;refine fun q=>aW ?_;refine aY 4 fun E d=> ?_;go_simp;have i:=(L5 I.heap.size I).alloc (L6 _) (.cells (aX (s.1.kr v,a,g)).toArray 53);have HN:=H (bj (aS.new I (s.1.kr v,a,g)));replace m:=H (m.below i);replace P:=H (P.below i);replace K:=H ((i.block b (L8.1 K.o).1).trans K.o);replace z:=H (z.below i);replace G:=H (G.below i);replace F:=H (F.keep i.size (.below i));replace V:=H (KeepsFrom.trans V.o ((KeepsOthers.alloc I (.cells (aX (s.1.kr v,a,g)).toArray 53)).from _));clear i
    skip
    refine d.out _ _ (show(I.alloc (.cells (aX (s.1.kr v,a,g)).toArray 53)).cell? w.heap.size=some (f.C:Y)from m.bc.cell) (fun aC=> ?_);clear d E q;refine aW ?_;change wpAnyH _ _ _ _ _ _ _ _ (I.alloc (.cells (aX (s.1.kr v,a,g)).toArray 53));generalize I.heap.size=NB at HN|-;generalize I.alloc (.cells (aX (s.1.kr v,a,g)).toArray 53)=W9 at HN m P K z G F V aC|-;have q:=aC;clear aC;refine aY 5 fun E d=> ?_;go_simp;change Calls _ _ #[u,Value.slice (some ⟨NB,0,none⟩) [((s.1.kr v,a,g):cP)].length 1] _ _;refine(cN W9 (w.heap.size+3) u M z.o NB 0 1 [(s.1.kr v,a,g)] HN.o (fun y hy=>by rw[Ly.1 hy];exact F.o) IM (by have:=m.size;omega)).mono ?_;rintro e w9⟨v',rfl,h1,h2,-⟩;obtain⟨a9,av,ba,-,-⟩:=h1.val;generalize (M++[(s.1.kr v,a,g)]).length=n9 at ba;subst ba;obtain⟨p9,k9⟩:=m.emit HM.o z.o h1 h2;have aa:=G.grown h2 z.ty D;have ak:=(P.grown h2 z.ty D).other (show W.heap.size≠w.heap.size+2 by omega) 0 (.slice a9 n9 av);have b4:=(m.bc.grown h2 z.ty D).cell;have cS:=aa.cell;have cT:=aa.free;have N:=H (k9.same b _ O K.o Z);have j:=H p9;have U:=H ak;have L:=H (KeepsFrom.trans V.o (show KeepsFrom w2.heap.size W9 _ from⟨k9.size,fun k o hB h ho=>k9.same k o O h ho⟩));clear p9 k9 aa ak h1 h2 HN m P K z G F V;go_simp;refine d.out _ _ b4 ?_;clear d E q;refine fun q=>aW ?_;refine aY 6 fun E d=> ?_;go_simp;refine d.out _ _ (j.bc.cell) (fun aC=> ?_);clear d E q aC cS cT b4
    (try simp only[Act.put,Lf,Lk,Lm])
    refine ay ?_ _;unfold BN;dsimp only;generalize w9.setCell ⟨w.heap.size+2,0,none⟩ (.slice a9 n9 av)=y0 at j U N L|-
    gi_wp2
    have hK:=(show(fun W':World=>W'.cell? w.heap.size=some (f.C:Y)/\W'.cell? ⟨f.C,1,none⟩=some (f.T:Y)/\W'.cell? ⟨w.heap.size+1,0,none⟩=some (now:Y)) y0 from⟨j.bc.cell,j.cn.cell 1 _ Z,j.bn.cell⟩);refine cc (S:=(fun W':World=>W'.cell? w.heap.size=some (f.C:Y)/\W'.cell? ⟨f.C,1,none⟩=some (f.T:Y)/\W'.cell? ⟨w.heap.size+1,0,none⟩=some (now:Y))) O IL IL hK (fun q=> ?_);clear hK;have i:=(L5 y0.heap.size y0).drew;replace j:=H (j.below i);replace U:=H (U.below i);replace N:=H ((i.block b (L8.1 N.o).1).trans N.o);replace L:=H (KeepsFrom.trans L.o (show KeepsFrom w2.heap.size y0 y0.drew from⟨L6 _,fun _ _ _ h _=>h⟩));clear i;generalize y0.drew=y1 at j U N L q|-;refine aA 0 1 2 3 ?_;refine aA 4 5 6 7 ?_;refine aQ 8 ?_;refine aY 9 fun E d=> ?_;go_simp;refine(aZ f (s.1.qa v) y1 j.cn).mono ?_;rintro e y2⟨rfl,i⟩;replace j:=H (j.below i);replace U:=H (U.below i);replace N:=H ((i.block b (L8.1 N.o).1).trans N.o);replace L:=H (KeepsFrom.trans L.o ((lE i).from _));clear i;go_simp;refine d.out _ _ (⟨j.bc.cell,j.cn.cell 1 _ Z,j.bn.cell⟩) ?_;clear d E q;refine fun q=>aW ?_;refine aY 10 fun E d=> ?_;go_simp;refine(mJ f.T (s.1.qa v).tm now (s.1.qa v).next y2 j.cn.tm).mono ?_;rintro e y3⟨rfl,hs,X⟩;have J:=ot.GL (f:=f) X;replace L:=H (KeepsFrom.trans L.o (br j.cn J w2.heap.size));replace N:=H ((br j.cn J 0).same b _ (LZ _) N.o Z);replace U:=H (U.xs j.cn J D D D D D D);replace j:=H (show Pd f now w (s.1.out now v) (s.2.1++[s.1.kr v]) y3 from j.step (j.cn.GM hs X) (cM.o.out hn v) J);clear hs X J;go_simp;refine d.out _ _ (⟨j.bc.cell,j.cn.cell 1 _ Z,j.bn.cell⟩) ?_;clear d E q;refine fun q=>aW ?_;refine ay ?_ _;clear q;unfold BN;dsimp only
    gi_wp2
    exact⟨⟨L.size,fun k o hB h ho=>L.same k o O h ho⟩,(s.1.out now v,s.2.1++[s.1.kr v],decide (v=0)),⟨cX.1,fun h0=>by simp[h0]⟩,⟨j.o,U.o,d4.o,cX.2.1⟩,N.o⟩
   go_simp;refine(jR f s.1 v W7 m.cn m.ok O).mono ?_;rintro e I⟨a,g,rfl,b5,X,p⟩;replace V:=H (KeepsFrom.trans V.o (br m.cn p w2.heap.size));replace K:=H ((br m.cn p 0).same b _ (LZ _) K.o Z);replace P:=H (P.xs m.cn p D D D D D D);replace z:=H (z.xs m.cn p);replace G:=H (G.xs m.cn p D D D D D D);replace m:=H (m.step X (m.ok.qa v) p);have F:=H b5;clear b5 X p;unfold dY;go_simp;refine d.out _ _ (m.bc.cell) ?_;clear d E q;refine fun q=>aW ?_;refine wpAnyH_ready (rs:=[0,4]) IL IK ?_;refine AllReadyH.cons (by simp only[Lx,Lr];rfl) (fun E d=> ?_) (AllReadyH.cons (by simp only[Lx,Lv,Lr];rfl) (fun E d=> ?_) AllReadyH.nil)
   focus
    have cL:=G.cell;go_simp;refine d.out _ _ (m.bc.cell) ?_;clear d E q;refine fun q=>aW ?_;clear cL;refine aY 4 fun E d=> ?_;go_simp;have i:=(L5 I.heap.size I).alloc (L6 _) (.cells (aX (s.1.kr v,a,g)).toArray 53);have HN:=H (bj (aS.new I (s.1.kr v,a,g)));replace m:=H (m.below i);replace P:=H (P.below i);replace K:=H ((i.block b (L8.1 K.o).1).trans K.o);replace z:=H (z.below i);replace G:=H (G.below i);replace F:=H (F.keep i.size (.below i));replace V:=H (KeepsFrom.trans V.o ((KeepsOthers.alloc I (.cells (aX (s.1.kr v,a,g)).toArray 53)).from _));clear i
    skip
    refine d.out _ _ (show(I.alloc (.cells (aX (s.1.kr v,a,g)).toArray 53)).cell? w.heap.size=some (f.C:Y)from m.bc.cell) (fun aC=> ?_);clear d E q;refine aW ?_;change wpAnyH _ _ _ _ _ _ _ _ (I.alloc (.cells (aX (s.1.kr v,a,g)).toArray 53));generalize I.heap.size=NB at HN|-;generalize I.alloc (.cells (aX (s.1.kr v,a,g)).toArray 53)=W9 at HN m P K z G F V aC|-;have q:=aC;clear aC
   rotate_left 1
   focus
    go_simp;have i:=(L5 I.heap.size I).alloc (L6 _) (.cells (aX (s.1.kr v,a,g)).toArray 53);have HN:=H (bj (aS.new I (s.1.kr v,a,g)));replace m:=H (m.below i);replace P:=H (P.below i);replace K:=H ((i.block b (L8.1 K.o).1).trans K.o);replace z:=H (z.below i);replace G:=H (G.below i);replace F:=H (F.keep i.size (.below i));replace V:=H (KeepsFrom.trans V.o ((KeepsOthers.alloc I (.cells (aX (s.1.kr v,a,g)).toArray 53)).from _));clear i
    skip
    refine d.out _ _ (show(I.alloc (.cells (aX (s.1.kr v,a,g)).toArray 53)).cell? w.heap.size=some (f.C:Y)from m.bc.cell) (fun aC=> ?_);clear d E q;refine aW ?_;change wpAnyH _ _ _ _ _ _ _ _ (I.alloc (.cells (aX (s.1.kr v,a,g)).toArray 53));generalize I.heap.size=NB at HN|-;generalize I.alloc (.cells (aX (s.1.kr v,a,g)).toArray 53)=W9 at HN m P K z G F V aC|-;have q:=aC;clear aC;refine aY 0 fun E d=> ?_;have cL:=G.cell;go_simp;refine d.out _ _ (m.bc.cell) ?_;clear d E q;refine fun q=>aW ?_;clear cL
   all_goals
    refine aY 5 fun E d=> ?_;go_simp;change Calls _ _ #[u,Value.slice (some ⟨NB,0,none⟩) [((s.1.kr v,a,g):cP)].length 1] _ _;refine(cN W9 (w.heap.size+3) u M z.o NB 0 1 [(s.1.kr v,a,g)] HN.o (fun y hy=>by rw[Ly.1 hy];exact F.o) IM (by have:=m.size;omega)).mono ?_;rintro e w9⟨v',rfl,h1,h2,-⟩;obtain⟨a9,av,ba,-,-⟩:=h1.val;generalize (M++[(s.1.kr v,a,g)]).length=n9 at ba;subst ba;obtain⟨p9,k9⟩:=m.emit HM.o z.o h1 h2;have aa:=G.grown h2 z.ty D;have ak:=(P.grown h2 z.ty D).other (show W.heap.size≠w.heap.size+2 by omega) 0 (.slice a9 n9 av);have b4:=(m.bc.grown h2 z.ty D).cell;have cS:=aa.cell;have cT:=aa.free;have N:=H (k9.same b _ O K.o Z);have j:=H p9;have U:=H ak;have L:=H (KeepsFrom.trans V.o (show KeepsFrom w2.heap.size W9 _ from⟨k9.size,fun k o hB h ho=>k9.same k o O h ho⟩));clear p9 k9 aa ak h1 h2 HN m P K z G F V;go_simp;refine d.out _ _ b4 ?_;clear d E q;refine fun q=>aW ?_;refine aY 6 fun E d=> ?_;go_simp;refine d.out _ _ (j.bc.cell) (fun aC=> ?_);clear d E q aC cS cT b4
    (try simp only[Act.put,Lf,Lk,Lm])
    refine ay ?_ _;unfold BN;dsimp only;generalize w9.setCell ⟨w.heap.size+2,0,none⟩ (.slice a9 n9 av)=y0 at j U N L|-
    gi_wp2
    have hK:=(show(fun W':World=>W'.cell? w.heap.size=some (f.C:Y)/\W'.cell? ⟨f.C,1,none⟩=some (f.T:Y)/\W'.cell? ⟨w.heap.size+1,0,none⟩=some (now:Y)) y0 from⟨j.bc.cell,j.cn.cell 1 _ Z,j.bn.cell⟩);refine cc (S:=(fun W':World=>W'.cell? w.heap.size=some (f.C:Y)/\W'.cell? ⟨f.C,1,none⟩=some (f.T:Y)/\W'.cell? ⟨w.heap.size+1,0,none⟩=some (now:Y))) O IL IL hK (fun q=> ?_);clear hK;have i:=(L5 y0.heap.size y0).drew;replace j:=H (j.below i);replace U:=H (U.below i);replace N:=H ((i.block b (L8.1 N.o).1).trans N.o);replace L:=H (KeepsFrom.trans L.o (show KeepsFrom w2.heap.size y0 y0.drew from⟨L6 _,fun _ _ _ h _=>h⟩));clear i;generalize y0.drew=y1 at j U N L q|-;refine aA 0 1 2 3 ?_;refine aA 4 5 6 7 ?_;refine aQ 8 ?_;refine aY 9 fun E d=> ?_;go_simp;refine(aZ f (s.1.qa v) y1 j.cn).mono ?_;rintro e y2⟨rfl,i⟩;replace j:=H (j.below i);replace U:=H (U.below i);replace N:=H ((i.block b (L8.1 N.o).1).trans N.o);replace L:=H (KeepsFrom.trans L.o ((lE i).from _));clear i;go_simp;refine d.out _ _ (⟨j.bc.cell,j.cn.cell 1 _ Z,j.bn.cell⟩) ?_;clear d E q;refine fun q=>aW ?_;refine aY 10 fun E d=> ?_;go_simp;refine(mJ f.T (s.1.qa v).tm now (s.1.qa v).next y2 j.cn.tm).mono ?_;rintro e y3⟨rfl,hs,X⟩;have J:=ot.GL (f:=f) X;replace L:=H (KeepsFrom.trans L.o (br j.cn J w2.heap.size));replace N:=H ((br j.cn J 0).same b _ (LZ _) N.o Z);replace U:=H (U.xs j.cn J D D D D D D);replace j:=H (show Pd f now w (s.1.out now v) (s.2.1++[s.1.kr v]) y3 from j.step (j.cn.GM hs X) (cM.o.out hn v) J);clear hs X J;go_simp;refine d.out _ _ (⟨j.bc.cell,j.cn.cell 1 _ Z,j.bn.cell⟩) ?_;clear d E q;refine fun q=>aW ?_;refine ay ?_ _;clear q;unfold BN;dsimp only
    gi_wp2
    exact⟨⟨L.size,fun k o hB h ho=>L.same k o O h ho⟩,(s.1.out now v,s.2.1++[s.1.kr v],decide (v=0)),⟨cX.1,fun h0=>by simp[h0]⟩,⟨j.o,U.o,d4.o,cX.2.1⟩,N.o⟩
  case Hm =>
   intro D2 W5 s2 i0 b7 c6 c9;obtain⟨⟨al,hB,hlen,c7⟩,bb⟩:=b7;have HE:=H (AE c6 c7);have d6:=H al;have e6:=H bb;have d7:=H c9;clear al hB c7 c6 c5 cV be ax bb c9;obtain⟨u,b6,M,hM,b0⟩:=d6.bl;have cL:=b6.cell;have z:=H (show aL W5 (w.heap.size+3) u s2.2.1 from⟨M,hM,b0⟩);clear b6 hM b0;go_wp2_with fail;have h4:b≠D2:=O
   have bu:(W5.putObj D2 (.deferred none)).heap[b]? =some (.deferred (some [])):=(World.putObj_heap_other h4).trans e6.o;refine⟨IK,.inl ⟨_,_,Z,run_takeDeferred d7.o,?_⟩⟩;refine⟨IK,.inl ⟨_,_,Z,run_takeDeferred bu,?_⟩⟩;have g3:=grownBy_putObj' W5 D2 (.deferred none);have g4:=grownBy_putObj' (W5.putObj D2 (.deferred none)) b (.deferred none);have m1:∀r,some D2=some r->w.heap.size<=r/\∃o:Obj,W5.heap[r]? =some o/\o.isCells=false:=fun r e=>by cases e;exact⟨O,_,d7.o,Z⟩
   have m2:∀r,some b=some r->w.heap.size<=r/\∃o:Obj,(W5.putObj D2 (.deferred none)).heap[r]? =some o/\o.isCells=false:=fun r e=>by cases e;exact⟨O,_,bu,Z⟩
   have p2:=(d6.marks g3 m1).marks g4 m2;have o2:=(z.marks g3 (fun r e=>(m1 r e).2)).marks g4 (fun r e=>(m2 r e).2)
   have e1:c.qb now=(s2.1,s2.2.1):=by
    unfold Cn.qb;dsimp only;rw[<-HR.o,<-e4.o];dsimp only;rw[<-d3.o,<-HE.o]
   refine⟨_,results_tmp Z _ _ _,u,Z,?_,?_,p2.ch⟩
   ·rw[e1];exact o2.mono O
   rw[e1];exact p2.cn
end
section
set_option maxHeartbeats 8000000
set_option maxRecDepth 100000
open Go.RowKit Go.Shelf
theorem vK (n:Nat):∀(c:Cn) (l:List Sg),(oi n c l).2.length<=l.length+n:=by
 induction n with
 | zero=>exact fun c l=>L6 _
 | succ n a =>
  intro c l;unfold oi;split
  ·split
   ·dsimp only;omega
   split
   ·have:=a (zY c ‹Sp›) (l++[c.nB (‹Sp›:Sp).1 (aK c.go ‹Sp›).2]);rw[Lc,Mr]at this;exact La this O
   dsimp only;omega
  dsimp only;omega
theorem vM (now:Int)(n:Nat):∀(c:Cn) (l:List Sg),(nA now n c l).2.length<=l.length+n:=by
 induction n with
 | zero=>exact fun c l=>L6 _
 | succ n a =>
  intro c l;unfold nA;split
  ·have:=a (c.out now c.allowed) (l++[c.kr c.allowed]);rw[Lc,Mr]at this;omega
  dsimp only;omega
theorem nz {c:Cn}(ok:c.Ok)(now:Int):(c.qb now).2.length<=1250000000000:=by
 have h1:=vK (c.flight.toNat+1) c [];have d:=Cn.Ok.oi (c.flight.toNat+1) ok [];have e:=ok.flight;unfold Cn.qb;dsimp only;generalize oi (c.flight.toNat+1) c []=a at h1 d|-;have h2:=vM now (a.1.kc.toNat+1) a.1 a.2;have f:=d.kc;generalize nA now (a.1.kc.toNat+1) a.1 a.2=b at h2|-;rw[M4]at h1;unfold Cb;split
 ·rw[Lc,Mr];omega
 dsimp only;omega
theorem au (f:Fp) (c:Cn) (now:Int) (w:World) (h:kn f c w) (ok:c.Ok) (hn:aI now) :
  Calls Tryz.prog 45 #[f.C,now] w (eA f w (c.push now).2 (c.push now).1):=by
 have a0:=h.gl.top;have P:=H ok;have b:=H h;have i:=H (ot.refl f w);clear h ok;by_cases h0:c.st=0
 ·have X:=H (show c.push now=(c,[]) by unfold Cn.push;rw[L9 h0]);rw[X.o];have n:decide (c.st=0)=true:=Le h0
  go_enter Tryz.func45,Tryz.ntmps45
  go_wp2_with fail;refine(bh f c _ b.o).mono ?_;rintro e w1⟨rfl,g⟩;rw[n];clear n h0;go_wp2;go_ret;exact⟨_,Z,aL.nil _ _,b.below g,.Da g⟩
 obtain⟨A,hA⟩:∃A,A=if ae c.st=true then c.qb now else(c,[]):=⟨_,Z⟩;have K:=H hA;clear hA;obtain⟨B,hB⟩:∃B,B=A.1.tt A.2:=⟨_,Z⟩;have S:=H hB;clear hB;have X:=H (show c.push now=(B.1.o6 now,B.2) by unfold Cn.push;rw[L7 h0];dsimp only;rw[<-K.o,<-S.o]);have c6:=H (show A.1.Ok by rw[K.o];split;exact P.qb hn;exact P.o);have d8:=H (show A.2.length<=1250000000000 by rw[K.o];split;exact nz P.o now;simp);have s:=H (show B.1.Ok by rw[S.o];exact c6.tt _);rw[X.o];have n:decide (c.st=0)=false:=Lh h0
 go_enter Tryz.func45,Tryz.ntmps45
 have e7:=b;have e8:=i
 go_upto_if 9 with(first | (go_at_call 35;refine(bh f c _ b.o).mono ?_;rintro e w1⟨rfl,z⟩;rw[n];clear n;have c9:=H (b.below z)) | (go_at_call 86;refine(mR f c _ c9.o).mono ?_;rintro e w2⟨rfl,E⟩))
 replace i:=H ((i.trans (.Da z)).trans (.Da E));replace b:=H (c9.below E);clear z E h0 c9 e7 e8
 go_cut [5]from 8 to 12 (fun v5 F=>aL F w.heap.size v5 A.2/\kn f A.1 F/\ot f w F)
 case first =>
  cases hs:ae c.st with
  | true =>
   have U:=H (show A=c.qb now by rw[K.o,L9 hs]);clear hs;go_wp2_with fail;refine(nU f c now _ b.o P.o hn).mono ?_;rintro e w3⟨v,rfl,x,p,j⟩;have HT:=H (show aL w3 w.heap.size v A.2/\kn f A.1 w3/\ot f w w3 from⟨by rw[U.o];exact x.mono i.size,by rw[U.o];exact p,i.trans j⟩);clear x p j;go_wp2_with fail
   go_meet
   case rel=>exact HT.o
  | false =>
   have U:=H (show A=(c,[]) by rw[K.o,L7 (by rw[hs];simp)]);clear hs;go_wp2_with fail
   go_meet
   case rel=>exact⟨by rw[U.o];exact aL.nil _ _,by rw[U.o];exact b.o,i.o⟩
 case rest =>
  obtain⟨x,p,j⟩:=hcut;have l:=H x;replace b:=H p;replace i:=H j;clear x p j;have a2:=b.cell 18 (.int .i64 A.1.pend) Z
  go_upto_if 18 with fail
  go_cut [5]from 13 to 28 (fun v5 F=>aL F w.heap.size v5 B.2/\kn f B.1 F/\ot f w F)
  case first =>
   clear a2;by_cases N:A.1.pend=2
   ·have V:=H (show B=(A.1.wk false,A.2++[A.1.v7 dE A.1.next]) by rw[S.o];unfold Cn.tt;rw[L9 N]);have hd:(A.1.pend==2)=true:=Me.2 N;clear N;obtain⟨M,hM,b0⟩:=l.o;obtain⟨la,lc,rfl,a3,-⟩:=b0.val;have HM:=H hM;have q:=H b0;clear hM b0;have e9:=H (show M.length=A.2.length by rw[<-HM.o,LM]);clear a3;go_wp2_with fail;refine(aZ f A.1 _ b.o).mono ?_;rintro e w5⟨rfl,g⟩;replace q:=H (q.below g);replace i:=H (i.trans (.Da g));replace b:=H (b.below g);clear g;go_wp2_with fail;refine(fS f A.1 dE A.1.next _ b.o c6.o Z).mono ?_;rintro e t⟨a,m,rfl,W,p,j⟩;replace q:=H (q.xs b.o j);replace i:=H (i.trans j);replace b:=H p;have a4:=H W;clear p j W;unfold dY;have bI:=(L5 t.heap.size t).alloc (L6 _) (.cells (aX (A.1.v7 dE A.1.next,a,m)).toArray 53);have HN:=H (bj (aS.new t (A.1.v7 dE A.1.next,a,m)));replace q:=H (q.below bI);replace i:=H (i.trans (.Da bI));replace b:=H (b.below bI);replace a4:=H (a4.keep bI.size (.below bI));clear bI;go_wp2_with fail;change Calls _ _ #[Value.slice la M.length lc,Value.slice (some ⟨t.heap.size,0,none⟩) [((A.1.v7 dE A.1.next,a,m):cP)].length 1] (t.alloc (.cells (aX (A.1.v7 dE A.1.next,a,m)).toArray 53)) _;generalize t.heap.size=NB at HN|-;generalize t.alloc (.cells (aX (A.1.v7 dE A.1.next,a,m)).toArray 53)=w7 at HN q i b a4|-;refine(cN w7 w.heap.size _ M q.o NB 0 1 [(A.1.v7 dE A.1.next,a,m)] HN.o (fun y hy=>by rw[Ly.1 hy];exact a4.o) (by have:=e9.o;have:=d8.o;simp only[LC,M4];omega) i.size).mono ?_;rintro e w8⟨v',rfl,h1,h2,-⟩;have HT:=H (show aL w8 w.heap.size v' B.2/\kn f B.1 w8/\ot f w w8 from⟨by rw[V.o];exact⟨M++[(A.1.v7 dE A.1.next,a,m)],by rw[LQ,HM.o];rfl,h1⟩,by rw[V.o];exact b.grown h2 (fun k e=>⟨q.ty k e,La a0 (q.lt k e).1⟩),i.grown h2 (fun k e=>(q.lt k e).1)⟩);clear h1 h2;go_wp2_with fail
    go_meet
    case rel=>exact HT.o
   have V:=H (show B=A by rw[S.o];unfold Cn.tt;rw[L7 N]);have hd:(A.1.pend==2)=false:=Ln.2 N;clear N;go_wp2_with fail
   go_meet
   case rel=>exact⟨by rw[V.o];exact l.o,by rw[V.o];exact b.o,i.o⟩
  case rest =>
   obtain⟨x,p,j⟩:=hcut;replace l:=H x;replace b:=H p;replace i:=H j;clear x p j K S c6 d8 X P;obtain⟨d,L⟩:=B;dsimp only at l b s;have a5:=s.flight;have a6:=s.kc
   skip
   go_wp2_with fail;refine(dS f d _ b.o s.sc).mono ?_;rintro e w3⟨rfl,g⟩;replace l:=H (l.below g);replace i:=H (i.trans (.Da g));replace b:=H (b.below g);clear g;by_cases G:d.flight<=0
   ·have HF:=H G;go_wp2_with fail;refine(mR f d _ b.o).mono ?_;rintro e w4⟨rfl,g⟩;replace l:=H (l.below g);replace i:=H (i.trans (.Da g));replace b:=H (b.below g);clear g
    cases hs:ae d.st with
    | false =>
     have u:=H (show d.o6 now={ d with dl:=eE } by unfold Cn.o6;rw[L9 ⟨G,(by rw[hs];simp)⟩]);clear hs G;have r:=b.cell 30 d.dl.set Z;have ca:=b.cell 31 d.dl.since Z;have cb:=b.cell 32 d.dl.ticks Z;have cf:=b.free 30;have ci:=b.free 31;have I:=b.free 32;go_wp2;go_ret;show eA f w L (d.o6 now) _ _;rw[u.o]
     skip
     exact⟨_,Z,l.xs b.o (.DO ((((nF.refl _ _).setCell 30 _).setCell 31 _).setCell 32 _)),(b.set 30 _ { d with dl:=⟨false,d.dl.since,d.dl.ticks⟩ } Z Z Z Z Z |>.set 31 _ { d with dl:=⟨false,0,d.dl.ticks⟩ } Z Z Z Z Z |>.set 32 _ { d with dl:=eE } Z Z Z Z Z),i.trans (.DO ((((nF.refl _ _).setCell 30 _).setCell 31 _).setCell 32 _))⟩
    | true =>
     have HS:=H hs;clear hs;go_wp2_with fail;refine(fR f d _ b.o s.sc (jr s.o) (js s.o)).mono ?_;rintro e w5⟨rfl,g⟩;replace l:=H (l.below g);replace i:=H (i.trans (.Da g));replace b:=H (b.below g);clear g;by_cases hu:0<d.kc
     ·have u:=H (show d.o6 now=if d.dl.set=true then d else { d with dl:=.Ck now d.tm.value } by unfold Cn.o6;rw[L7 (fun h=>h.2 ⟨HS.o,hu⟩)]);have eb:decide (0<d.kc)=true:=Le hu;clear G;have r:=b.cell 30 d.dl.set Z
      cases hdl:d.dl.set with
      | true =>
       rw[hdl]at r;have J:=H (show d.o6 now=d by rw[u.o,L9 hdl]);clear hdl;go_wp2;go_ret;show eA f w L (d.o6 now) _ _;rw[J.o];exact⟨_,Z,l.o,b.o,i.o⟩
      | false =>
       rw[hdl]at r;have J:=H (show d.o6 now={ d with dl:=.Ck now d.tm.value } by rw[u.o,L7 (by rw[hdl];simp)]);clear hdl;have c1:=b.cell 1 f.T Z;go_wp2_with fail;refine(ia f.T d.tm s.tm.1 _ b.tm).mono ?_;rintro e w5⟨rfl,g⟩;replace l:=H (l.below g);replace i:=H (i.trans (.Da g));replace b:=H (b.below g);clear g r c1;go_wp2_with fail;refine(dP _ _ _).mono ?_;rintro e t⟨rfl,g⟩;replace l:=H (l.below g);replace i:=H (i.trans (.Da g));replace b:=H (b.below g);clear g;have r:=b.cell 30 d.dl.set Z;have ca:=b.cell 31 d.dl.since Z;have cb:=b.cell 32 d.dl.ticks Z;have cf:=b.free 30;have ci:=b.free 31;have I:=b.free 32;go_wp2;go_ret;show eA f w L (d.o6 now) _ _;rw[J.o];exact⟨_,Z,l.xs b.o (.DO ((((nF.refl _ _).setCell 30 _).setCell 31 _).setCell 32 _)),(b.set 30 _ { d with dl:=⟨true,d.dl.since,d.dl.ticks⟩ } Z Z Z Z Z |>.set 31 _ { d with dl:=⟨true,now,d.dl.ticks⟩ } Z Z Z Z Z |>.set 32 _ { d with dl:=.Ck now d.tm.value } Z Z Z Z Z),i.trans (.DO ((((nF.refl _ _).setCell 30 _).setCell 31 _).setCell 32 _))⟩
     have u:=H (show d.o6 now={ d with dl:=eE } by unfold Cn.o6;rw[L9 ⟨G,(fun h=>hu h.2)⟩]);have eb:decide (0<d.kc)=false:=Lh hu;clear G;have r:=b.cell 30 d.dl.set Z;have ca:=b.cell 31 d.dl.since Z;have cb:=b.cell 32 d.dl.ticks Z;have cf:=b.free 30;have ci:=b.free 31;have I:=b.free 32;go_wp2;go_ret;show eA f w L (d.o6 now) _ _;rw[u.o]
     skip
     exact⟨_,Z,l.xs b.o (.DO ((((nF.refl _ _).setCell 30 _).setCell 31 _).setCell 32 _)),(b.set 30 _ { d with dl:=⟨false,d.dl.since,d.dl.ticks⟩ } Z Z Z Z Z |>.set 31 _ { d with dl:=⟨false,0,d.dl.ticks⟩ } Z Z Z Z Z |>.set 32 _ { d with dl:=eE } Z Z Z Z Z),i.trans (.DO ((((nF.refl _ _).setCell 30 _).setCell 31 _).setCell 32 _))⟩
   have u:=H (show d.o6 now=if d.dl.set=true then d else { d with dl:=.Ck now d.tm.value } by unfold Cn.o6;rw[L7 (fun h=>G h.1)]);have r:=b.cell 30 d.dl.set Z
   cases hdl:d.dl.set with
   | true =>
    rw[hdl]at r;have J:=H (show d.o6 now=d by rw[u.o,L9 hdl]);clear hdl;go_wp2;go_ret;show eA f w L (d.o6 now) _ _;rw[J.o];exact⟨_,Z,l.o,b.o,i.o⟩
   | false =>
    rw[hdl]at r;have J:=H (show d.o6 now={ d with dl:=.Ck now d.tm.value } by rw[u.o,L7 (by rw[hdl];simp)]);clear hdl;have c1:=b.cell 1 f.T Z;go_wp2_with fail;refine(ia f.T d.tm s.tm.1 _ b.tm).mono ?_;rintro e w5⟨rfl,g⟩;replace l:=H (l.below g);replace i:=H (i.trans (.Da g));replace b:=H (b.below g);clear g r c1;go_wp2_with fail;refine(dP _ _ _).mono ?_;rintro e t⟨rfl,g⟩;replace l:=H (l.below g);replace i:=H (i.trans (.Da g));replace b:=H (b.below g);clear g;have r:=b.cell 30 d.dl.set Z;have ca:=b.cell 31 d.dl.since Z;have cb:=b.cell 32 d.dl.ticks Z;have cf:=b.free 30;have ci:=b.free 31;have I:=b.free 32;go_wp2;go_ret;show eA f w L (d.o6 now) _ _;rw[J.o];exact⟨_,Z,l.xs b.o (.DO ((((nF.refl _ _).setCell 30 _).setCell 31 _).setCell 32 _)),(b.set 30 _ { d with dl:=⟨true,d.dl.since,d.dl.ticks⟩ } Z Z Z Z Z |>.set 31 _ { d with dl:=⟨true,now,d.dl.ticks⟩ } Z Z Z Z Z |>.set 32 _ { d with dl:=.Ck now d.tm.value } Z Z Z Z Z),i.trans (.DO ((((nF.refl _ _).setCell 30 _).setCell 31 _).setCell 32 _))⟩
end
section
set_option maxRecDepth 100000
open Go.RowKit Go.Shelf
theorem kn.I6 {f:Fp}{c:Cn}{w:World}(h:kn f c w){g:Nat}{m:Cg}(b:eU g m w)(e:dy<=g):kn { f with G:=g } { c with cg:=m } (w.setCell ⟨f.C,2,none⟩ g):=by
 have a:nF f.C w (w.setCell ⟨f.C,2,none⟩ g):=(nF.refl _ _).setCell 2 _;have d:=aG.Dj a h.Cx D;refine⟨by rw[LK _ _ _ _ _ _ h.blk];rfl,h.sc.keep (a.block _ h.Dh.lt (h.Dh.ne h.Cx D)) a.size d,h.tm.keep (a.block _ h.Dm.lt (h.Dm.ne h.Cx D)),b.keep (a.block _ b.DC.lt (b.DC.ne h.Cx D)),h.bx.keep (a.block _ h.Dp.lt (h.Dp.ne h.Cx D)) (a.block _ h.Dq.lt (h.Dq.ne h.Cx D)) a.size d,h.gl.below ((ot.DO a).F7 h.hi h.gl.top),⟨h.hi.C,h.hi.S,h.hi.T,e,h.hi.X,h.hi.R⟩⟩
def An (f:Fp)(w:World)(d:Cn)(e:Ending)(w':World):Prop:=e= .returned (.tuple #[])/\∃g,w.heap.size<=g/\kn { f with G:=g } d w'/\ot f w w'
set_option maxHeartbeats 4000000 in
theorem qm (f:Fp) (c:Cn) (m:Int) (w:World) (h:kn f c w) (ok:c.Ok) (E:m=0\/(28<=m/\m<=1099511627776)) :
  Calls Tryz.prog 102 #[f.C,m] w (An f w (c.resize m)):=by
 have s:=ok.go;obtain⟨F,t⟩:=s;have g:=h.gl.top;obtain⟨u,he⟩:=h.gl.err;have p:=H h;have x:=h.cell 7 c.go Z;have y:=h.free 7;clear h ok;obtain⟨k,a⟩:∃k,k=min c.go (if m=0 then 28 else m):=⟨_,Z⟩;have G:=H a;have i:28<=k/\k<=1000:=by rw[a];split <;> omega
 have z:=H (show c.resize m={ c with go:=k,cg:=Ay k } by unfold Cn.resize;rw[<-a]);rw[z.o];have b:=H (p.set 7 (.int .i64 k) { c with go:=k } Z Z Z Z Z);have q:=H (he.below ((ot.DO (f:=f) ((nF.refl f.C w).setCell 7 (.int .i64 k))).F7 p.hi g) D);have d:=H (ot.DO (f:=f) ((nF.refl f.C w).setCell 7 (.int .i64 k)));clear he;by_cases h0:m=0
 focus
  have r:min c.go 28=k:=by rw[a,L9 h0]
  clear a;subst h0
 rotate_left 1
 focus
  have r:min c.go m=k:=by rw[a,L7 h0]
  have I:(m==0)=false:=Ln.2 h0;clear a
 all_goals
  skip
  go_enter Tryz.func102,Tryz.ntmps102
  go_wp2_with fail
  skip
  clear r x y;generalize w.setCell ⟨f.C,7,none⟩ (.int .i64 k)=w1 at b q d|-;refine(qR k u w1 q.o i.1 O).mono ?_;rintro e J⟨rfl,j,l⟩;have A:=H j;have n:=d.size;have B:=j.DC.lt;replace d:=H (d.trans (.Da l));replace b:=H (b.below l);clear l j;have K:=b.cell 2 _ Z;have f2:=b.free 2;go_wp2_with fail
  go_end0
  exact⟨Z,w1.heap.size,n,b.I6 A.o O,d.trans (.DO ((nF.refl _ _).setCell 2 _))⟩
set_option maxHeartbeats 4000000 in
theorem kg (f:Fp) (c:Cn) (s:Sg) (a:Option Addr) (cap:Nat) (w:World) (h:kn f c w) (ok:c.Ok) (hs:s.Ok) (hy:s.syn=true) :
  Calls Tryz.prog 57 #[f.C,dY s a cap] w (An f w (c.meet s)):=by
 have J:=h.gl.top;have K:=h.lt;have L:f.C≠w.heap.size:=O
 have E:=H ok;have cl:=hs.win;obtain⟨p,q⟩:=cl;have M:=H (show s.go=0\/(28<=s.go/\s.go<=1099511627776) by have:=hs.Ef hy;omega);have x:=h.cell 12 c.A2 Z;have N:=h.cell 8 c.ke Z;have P:=h.free 12;have S:=h.free 8;have hA:=(h.set 12 s.sq { c with A2:=s.sq } Z Z Z Z Z).set 8 s.ke { c with A2:=s.sq,ke:=s.ke } Z Z Z Z Z;have F:ot f w ((w.setCell ⟨f.C,12,none⟩ s.sq).setCell ⟨f.C,8,none⟩ s.ke):=.DO (((nF.refl _ _).setCell 12 _).setCell 8 _);have i:=(L5 ((w.setCell ⟨f.C,12,none⟩ s.sq).setCell ⟨f.C,8,none⟩ s.ke).heap.size ((w.setCell ⟨f.C,12,none⟩ s.sq).setCell ⟨f.C,8,none⟩ s.ke)).alloc (L6 _) (.cells (aX (s,a,cap)).toArray 53);have j:=H (hA.below i);have l:=H (F.trans (.Da i));have y:=aS.new ((w.setCell ⟨f.C,12,none⟩ s.sq).setCell ⟨f.C,8,none⟩ s.ke) (s,a,cap);rw[My,My]at y;have k:=H y;clear hA F i y h ok hs hy;unfold dY
 go_enter Tryz.func57,Tryz.ntmps57
 go_wp2_with fail;change Code.wp _ _ _ _ (((w.setCell ⟨f.C,12,none⟩ s.sq).setCell ⟨f.C,8,none⟩ s.ke).alloc (.cells (aX (s,a,cap)).toArray 53));generalize ((w.setCell ⟨f.C,12,none⟩ s.sq).setCell ⟨f.C,8,none⟩ s.ke).alloc (.cells (aX (s,a,cap)).toArray 53)=w1 at j l k|-;clear x N P S;have r:=(show(fun W:World=>W.cell? ⟨w.heap.size,8,none⟩=some (s.win:Y)) w1 from k.cell _ _ Z);refine az (fun W:World=>W.cell? ⟨w.heap.size,8,none⟩=some (s.win:Y)) (r) fun n=>?_;clear r;have i:=(L5 w1.heap.size w1).drew;replace l:=H (l.trans (.Da i));replace j:=H (j.below i);replace k:=H (k.below i);clear i;generalize w1.drew=Gh at j l k n|-;refine aA 0 1 2 3 ?_;refine aQ 4 ?_;refine aY 5 fun z m=> ?_;go_simp;refine(ix f { c with A2:=s.sq,ke:=s.ke } 1 s.win Gh j.o O ⟨p,q⟩).mono ?_;rintro e u⟨rfl,t,b⟩;replace k:=H (k.xs j.o b);replace l:=H (l.trans b);replace j:=H t;clear t b;go_simp;refine m.out _ _ (k.cell _ _ Z) ?_;clear m z n;refine fun n=>aW ?_;refine ay ?_ _;clear n;have G:=H (Cn.Ok.announce ({ E.o with }:Cn.Ok { c with A2:=s.sq,ke:=s.ke }) (a:=1) (w:=s.win) D ⟨p,q⟩);obtain⟨d,A⟩:∃d,d=Cn.announce { c with A2:=s.sq,ke:=s.ke } 1 s.win:=⟨_,Z⟩;have T:=H (show c.meet s=d.resize s.go by rw[A];rfl);rw[<-A]at j G;clear A E;go_wp2_with fail;have r:=(show(fun W:World=>W.cell? ⟨w.heap.size,9,none⟩=some (s.go:Y)) u from k.cell _ _ Z);refine az (fun W:World=>W.cell? ⟨w.heap.size,9,none⟩=some (s.go:Y)) (r) fun n=>?_;clear r;have i:=(L5 u.heap.size u).drew;replace l:=H (l.trans (.Da i));replace j:=H (j.below i);replace k:=H (k.below i);clear i;generalize u.drew=Hn at j l k n|-;refine aA 0 1 2 3 ?_;refine aQ 4 ?_;refine aY 5 fun z m=> ?_;go_simp;refine(qm f d s.go Hn j.o G.o M.o).mono ?_;rintro e X⟨rfl,g,I,t,b⟩;have U:=H t;have V:=H (l.trans b);have el:=H (k.xs j.o b);have B:=La l.size I;clear t b I;go_simp;refine m.out _ _ (el.cell _ _ Z) ?_;clear m z n;refine fun n=>aW ?_;refine ay ?_ _;clear n;go_wp2_with fail
 go_end0
 exact⟨Z,g,B,by rw[T.o];exact U.o,V.o⟩
end
end Go.Proofs.YtcmncipikdpnbaaGreatDoor
