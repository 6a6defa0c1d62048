import Derived.Test.YtcmncipikdpnbaaGreatDoorUb22
namespace Go.Proofs.YtcmncipikdpnbaaGreatDoor
section
set_option maxHeartbeats 8000000
set_option maxRecDepth 100000
open Go.RowKit Go.Shelf
attribute [local go_sem] Oper.semAt_some
def dj (f:Fp)(w:World)(L:List Sg)(d:Cn)(e:Ending)(w':World):Prop:=∃v,e= .returned v/\aL w' w.heap.size v L/\kf f d w'/\nA f w w'
theorem ng (f:Fp) (c:Cn) (now:Int) (w:World) (h:kf f c w) (ok:c.Ok) (hn:aI now) :
  Calls Tryz.prog 87 #[f.C,now] w (dj f w (c.o6 now).2 (c.o6 now).1):=by
 have g4:=h.gl.top;have HO:=H ok;have i:=((((L3 w.heap.size w).alloc (L4 _) (.cells #[f.C] 32)).alloc FE (.cells #[now] 3)).alloc IH (.cells #[.slice none 0 0] 44))
 have HP:=H (show Pd f now w c [] (((w.alloc (.cells #[f.C] 32)).alloc (.cells #[now] 3)).alloc (.cells #[.slice none 0 0] 44))from by
  have b1:=zt.new w f.C 32;have b2:=zt.new (w.alloc (.cells #[f.C] 32)) now 3;have b3:=zt.new ((w.alloc (.cells #[f.C] 32)).alloc (.cells #[now] 3)) (.slice none 0 0) 44;rw[LX]at b2 b3;rw[LX]at b3;have e1:=(L3 (w.alloc (.cells #[f.C] 32)).heap.size (w.alloc (.cells #[f.C] 32))).alloc (L4 _) (.cells #[now] 3);have e2:=(L3 ((w.alloc (.cells #[f.C] 32)).alloc (.cells #[now] 3)).heap.size ((w.alloc (.cells #[f.C] 32)).alloc (.cells #[now] 3))).alloc (L4 _) (.cells #[.slice none 0 0] 44);exact⟨h.below i,ok,(b1.below e1).below e2,b2.below e2,⟨_,b3,aL.nil _ _⟩,.A1 i,g4⟩)
 clear i h ok;refine(MB (n:=4)).1 ?_;refine callsIn_of_wp_marks Tryz.func87 Z trivial ?_ Z;simp only[Tryz.ntmps87,LG,Lx,M1,Nat.reduceAdd,Nat.reduceSub,M8,M7,Mk,Mf,LD,LQ];refine M9.2 ?_;have cC:=HP.bc.cell;go_wp2_with fail
 go_step3
 go_wp2_with fail;refine wp_label ?_;go_wp2_with fail;change Calls _ _ _ (((w.alloc (.cells #[f.C] 32)).alloc (.cells #[now] 3)).alloc (.cells #[.slice none 0 0] 44)) _;generalize ((w.alloc (.cells #[f.C] 32)).alloc (.cells #[now] 3)).alloc (.cells #[.slice none 0 0] 44)=w1 at HP cC|-;refine(yf f _).mono ?_;rintro e w2⟨rfl,rfl⟩;have i:=(L3 w1.heap.size w1).alloc (L4 _) (.cells #[f.C] 32);have h4:=HP.size;have cF:=H (zt.new w1 f.C 32);replace HP:=H (HP.below i);have g5:=HP.size;clear i cC;generalize w1.alloc (.cells #[f.C] 32)=w2 at HP cF g5|-;obtain⟨R,hR⟩:∃R,R=n7 (c.flight.toNat+1) c []:=⟨_,Z⟩;have HR:=H hR;clear hR;have d9:=H (pY HO.o);have hI:=(show I1 f now w w1.heap.size R (c,[]) w2 from⟨HP.o,cF.o,by have:=d9.o;unfold iN;simp;omega,_,kC HO.o,HR.symm⟩);go_wp2_with fail;refine(M9 (n:=4)).1 ?_;refine Af O Prod.fst (fun s=>iN s.1) Z Z (I1 f now w w1.heap.size R) (fun _ _=>False) (Bu O) (fun _ _ _ _ h=>h.elim) (fun s W h=>⟨h.1.cn,h.1.ok,h.2.1.cell⟩) (fun s W W' h i=>yd h i) (c,[]) hI ?round ?done (fun _ _ _ _ h=>h.elim)
 case round =>
  intro l s x t W hl g6 b7 hp d7;obtain⟨al,hB,hlen,k,hk,bo⟩:=b7;obtain⟨cq,g7,e9,h5,h6,el⟩:=pZ al.ok d7;have ax:=H al;have cM:=H al.ok;have HB:=H hB;have da:=H d7;have dc:=H hp;have di:=H cq;have em:=H e9;have dk:=H bo;clear al hB d7 hp cq e9 bo hI HP cF
  gi_wp2
  refine⟨(KeepsOthers.alloc _ _).from _,fun _ W2=>Pd f now w s.1 s.2 W2/\zt w1.heap.size f.C 32 W2/\W2.heap[W.heap.size]? =some (.cells #[x.1,(aK s.1.gi x).2] 149 (0,0)),?_,?_,?_⟩
  ·intro _ A A' row h hg hr;exact⟨h.1.marks hg (fun r e=>⟨by have:=(hr r e).1;omega,(hr r e).2⟩),h.2.1.marks hg (fun r e=>(hr r e).2),(hg.block _ (L6.1 h.2.2).1 (fun e=>by obtain⟨-,o,ho,X⟩:=hr _ e.symm;rw[h.2.2]at ho;cases ho;cases X)).trans h.2.2⟩
  ·have i:=(L3 W.heap.size W).alloc (L4 _) (.cells #[x.1,(aK s.1.gi x).2] 149);exact⟨ax.below i,HB.below i,Lp _ _⟩
  rintro W2⟨d8,f0,c8⟩;have cC:=d8.bc.cell;have x0:W2.cell? W.heap.size=some (x.1:Y):=by rw[Ln _ _ _ _ _ _ c8];rfl
  have x1:W2.cell? ⟨W.heap.size,1,none⟩=some ((aK s.1.gi x).2:Y):=by rw[Ln _ _ _ _ _ _ c8];rfl
  have b8:=H d8;have cs:=H f0;have cY:=H c8;clear d8 f0 c8 ax HB
  gi_wp2
  refine⟨trivial,(CallsIn.inRound l (MB.2 (iH f s.1 x.1 (aK s.1.gi x).2 W2 b8.cn b8.ok O O))).mono ?_⟩;rintro e W3⟨a,g,rfl,b5,X,p⟩;unfold dZ;have f4:=br b8.cn p w2.heap.size;have cw:=H f4;have am:=H ((b8.cn.t8 p W.heap.size ⟨_,_,cY.o⟩).trans cY.o);have an:=H (cs.sT b8.cn p D D D D D D);have B:=H (b8.step X b8.ok.qn p);have F:=H b5;clear f4 X p b5 b8 cs cY cC x0 x1;have c2:=(L3 W3.heap.size W3).alloc (L4 _) (.cells (aY (s.1.kZ x.1 (aK s.1.gi x).2,a,g)).toArray 53);have HG:=H (aT.new W3 (s.1.kZ x.1 (aK s.1.gi x).2,a,g));have c0:=H (KeepsFrom.trans cw.o ((KeepsOthers.alloc W3 (.cells (aY (s.1.kZ x.1 (aK s.1.gi x).2,a,g)).toArray 53)).from _));replace am:=H ((c2.block _ (L6.1 am.o).1).trans am.o);replace an:=H (an.below c2);replace B:=H (B.below c2);replace F:=H (F.keep c2.size (.below c2));clear c2 cw
  gi_wp2
  change Code.wpIn _ _ _ _ _ _ (W3.alloc (.cells (aY (s.1.kZ x.1 (aK s.1.gi x).2,a,g)).toArray 53));generalize dn:W3.heap.size=SB at HG|-;generalize W3.alloc (.cells (aY (s.1.kZ x.1 (aK s.1.gi x).2,a,g)).toArray 53)=W4 at HG c0 am an B F|-;clear dn;have hK:=(show(fun W':World=>W'.cell? w.heap.size=some (f.C:Y)/\W'.cell? f.C=some (f.S:Y)/\W'.cell? W.heap.size=some (x.1:Y)/\W'.cell? ⟨W.heap.size,1,none⟩=some ((aK s.1.gi x).2:Y)) W4 from⟨B.bc.cell,B.cn.cell 0 _ Z,JR,JR⟩);refine cc (S:=(fun W':World=>W'.cell? w.heap.size=some (f.C:Y)/\W'.cell? f.C=some (f.S:Y)/\W'.cell? W.heap.size=some (x.1:Y)/\W'.cell? ⟨W.heap.size,1,none⟩=some ((aK s.1.gi x).2:Y))) O IG IG hK (fun q=> ?_);have bd:=(L3 W4.heap.size W4).drew;have c3:=H (KeepsFrom.trans c0.o (show KeepsFrom w2.heap.size W4 W4.drew from⟨L4 _,fun _ _ _ h _=>h⟩));replace am:=H ((bd.block _ (L6.1 am.o).1).trans am.o);replace an:=H (an.below bd);replace B:=H (B.below bd);replace F:=H (F.keep bd.size (.below bd));replace HG:=H (HG.below bd);clear bd hK c0;generalize W4.drew=W5 at c3 am an B F HG q|-;refine aA 0 1 2 3 ?_;refine aM 4 5 ?_;refine aZ 6 fun E d=> ?_;go_simp;refine(iy f.S (f.S+1) s.1.qn.sc x.1 (aK s.1.gi x).2 _ B.ok.sc B.cn.sc).mono ?_;rintro e W6⟨rfl,f5,e6⟩;have J:=nA.EK (f:=f) e6;have dT:=H (KeepsFrom.trans c3.o (br B.cn J w2.heap.size));replace am:=H ((B.cn.t8 J W.heap.size ⟨_,_,am.o⟩).trans am.o);replace an:=H (an.sT B.cn J D D D D D D);replace F:=H (F.sT B.cn J);replace HG:=H (HG.sT B.cn J);replace B:=H (B.step (B.cn.FB f5 e6) (B.ok.D7 (B.ok.sc.ret _)) J);clear f5 e6 J c3;have he:s.1.qn.sc.DY (x.1,(aK s.1.gi x).2)=0:=di.o;rw[he];clear he;go_simp;refine d.out _ _ (⟨B.bc.cell,B.cn.cell 0 _ Z,JR,JR⟩) ?_;clear d E q;refine fun q=>aW ?_;refine ay ?_ _;clear q;unfold Bt;dsimp only;have cC:=B.bc.cell;have c1:=B.cn.cell 1 _ Z
  gi_wp2
  refine⟨trivial,(CallsIn.inRound l (MB.2 (qX f.T _ W6 B.cn.tm))).mono ?_⟩;rintro e W7⟨rfl,f6,e7⟩;have J:=nA.Gu (f:=f) e7;have d0:=H (KeepsFrom.trans dT.o (br B.cn J w2.heap.size));replace an:=H (an.sT B.cn J D D D D D D);replace F:=H (F.sT B.cn J);replace HG:=H (HG.sT B.cn J);have b9:=H (show Pd f now w (AG s.1 x) s.2 W7 from B.step (B.cn.Gx f6 e7) (B.ok.Dk (Tm.tv B.ok.tm)) J);clear f6 e7 J dT B am cC c1;obtain⟨v,b6,M,hM,b0⟩:=b9.bl;have HM:=H hM;have z:=H b0;have G:=H b6;have cL:=b6.cell;clear hM b0 b6;obtain⟨⟨r0,r1,r2,r3,r4,r5,r6,r7,r8,r9,dp,ds,dv⟩,p0,p1,p2,p3,p4,p5,p6,p7,p8,p9,eB,eC,eL⟩:=(HG.o).facts;have eS:=b9.size
  gi_wp2
  have bI:=(L3 W7.heap.size W7).alloc (L4 _) (.cells (aY (s.1.kZ x.1 (aK s.1.gi x).2,a,g)).toArray 53);have c4:=H (KeepsFrom.trans d0.o ((KeepsOthers.alloc W7 (.cells (aY (s.1.kZ x.1 (aK s.1.gi x).2,a,g)).toArray 53)).from _));have HN:=H (bj (aT.new W7 (s.1.kZ x.1 (aK s.1.gi x).2,a,g)));replace b9:=H (b9.below bI);replace an:=H (an.below bI);replace F:=H (F.keep bI.size (.below bI));replace z:=H (z.below bI);replace G:=H (G.below bI);have e0:M.length=s.2.length:=by rw[<-HM.o,LI]
  change _/\CallsIn _ _ _ _ #[v,Value.slice (some ⟨W7.heap.size,0,none⟩) [((s.1.kZ x.1 (aK s.1.gi x).2,a,g):cQ)].length 1] (W7.alloc (.cells (aY (s.1.kZ x.1 (aK s.1.gi x).2,a,g)).toArray 53)) _;generalize W7.heap.size=NB at HN|-;generalize W7.alloc (.cells (aY (s.1.kZ x.1 (aK s.1.gi x).2,a,g)).toArray 53)=I at HN b9 an F z G c4|-;clear bI cL HG d0 r0 p0 r1 p1 r2 p2 r3 p3 r4 p4 r5 p5 r6 p6 r7 p7 r8 p8 r9 p9 dp eB ds eC dv eL;refine⟨trivial,(CallsIn.inRound l (MB.2 (cN I (w.heap.size+3) v M z.o NB 0 1 [(s.1.kZ x.1 (aK s.1.gi x).2,a,g)] HN.o (fun y hy=>by rw[Lu.1 hy];exact F.o) IH (by have:=b9.size;omega)))).mono ?_⟩;rintro e W9⟨v',rfl,h1,h2,-⟩;obtain⟨a9,av,ba,-,-⟩:=h1.val;generalize (M++[(s.1.kZ x.1 (aK s.1.gi x).2,a,g)]).length=n9 at ba;subst ba;obtain⟨p9,k9⟩:=b9.emit HM.o z.o h1 h2;have aa:=G.grown h2 z.ty D;have ak:=(an.grown h2 z.ty D).other (show w1.heap.size≠w.heap.size+2 by omega) 0 (.slice a9 n9 av);have cS:=aa.cell;have cT:=aa.free;have j:=H p9;have U:=H ak;have L:=H (KeepsFrom.trans c4.o (show KeepsFrom w2.heap.size I _ from⟨k9.size,fun k o hB h ho=>k9.same k o O h ho⟩));clear p9 k9 aa ak h1 h2 HN b9 an F z G c4
  gi_wp2
  obtain⟨k0,rfl⟩:∃k0,k=k0+1:=⟨k-1,O⟩;exact⟨L.o,(AG s.1 x,s.2++[s.1.kZ x.1 (aK s.1.gi x).2]),g7,j.o,U.o,(show(s.2++[s.1.kZ x.1 (aK s.1.gi x).2]).length+iN (AG s.1 x)<=1099511627776 by rw[La,Mo];omega),k0,(show iN (AG s.1 x)<k0 by omega),by rw[<-dk.o];exact(jZ cM.o dc.o da.o k0 s.2).symm⟩
 case done =>
  intro b W s hD b7 c6 bb;obtain⟨al,hB,hlen,k,hk,bo⟩:=b7;rw[j0 c6]at bo;have ax:=H al;have e3:=H bo;have be:=H bb;clear al hB bo c6 hI HP cF bb;have d1:s.2.length<=1099511627776:=O
  clear hlen hk;have cC:=ax.bc.cell;have e4:=ax.size;have g8:=(L6.1 be.o).1;go_wp2_with fail;refine(vy f _).mono ?_;rintro e w4⟨rfl,rfl⟩;have i:=(L3 W.heap.size W).alloc (L4 _) (.cells #[f.C] 32);have cV:=H (zt.new W f.C 32);replace be:=H ((i.block b g8).trans be.o);replace ax:=H (ax.below i);have g9:W.heap.size<(W.alloc (.cells #[f.C] 32)).heap.size:=FE
  clear i cC;generalize W.alloc (.cells #[f.C] 32)=w4 at ax cV be g9|-;obtain⟨R2,f7⟩:∃R2,R2=ug now (kr now (s.1.iq.toNat+1) s.1 s.2).1 (kr now (s.1.iq.toNat+1) s.1 s.2).2:=⟨_,Z⟩;have d2:=H f7;clear f7;have h7:=ax.ok.iq;have c5:I2 f now w W.heap.size R2 (s.1,s.2,false) w4/\w4.heap[b]? =some (.deferred (some [])):=⟨⟨ax.o,cV.o,(show s.2.length+s.1.iq.toNat+1<=1200000000000 by omega),by rw[L5 FE];exact⟨_,Nat.lt_succ_self _,d2.symm⟩⟩,be.o⟩;go_wp2_with fail;refine(M9 (n:=4)).1 ?_;refine yc O Prod.fst fW (fun s=>s.2.2=true) Z Z (fun s W'=>I2 f now w W.heap.size R2 s W'/\W'.heap[b]? =some (.deferred (some []))) ((Bv O).and (fun _ _ _ _ h hg hr=>(hg.block b (L6.1 h).1 (fun e=>by have:=(hr b e.symm).1;omega)).trans h)) (fun s W' h=>⟨h.1.1.cn,h.1.1.ok,h.1.2.1.cell⟩) (fun s W' h8 h i=>⟨ye h.1 i,(i.block b (L6.1 h.2).1).trans h.2⟩) (s.1,s.2,false) c5 ?GH ?GY
  case GH =>
   intro l s v W5 hl g6 b7 hv;obtain⟨⟨al,hB,hlen,c7⟩,bb⟩:=b7;have e8:=Ag al.ok hv c7 (now:=now) (R:=R2);obtain⟨f1,f2,f3⟩:=mp al.ok (now:=now) hv;have cX:=H e8;have cM:=H al.ok;have d3:=H (show(s.2.1++[s.1.kl v]).length+fW (s.1.out now v,s.2.1++[s.1.kl v],decide (v=0))+i7 (decide (v=0))<=1200000000000 from L8 e8.2.2 hlen);have d4:s.2.1.length<=1200000000000:=O
   have ax:=H al;have P:=H hB;have K:=H bb;clear al hB c7 e8 bb c5 cV be f3
   gi_wp2
   refine⟨KeepsFrom.refl _ _,fun _ W6=>Pd f now w s.1 s.2.1 W6/\zt W.heap.size f.C 32 W6/\W6.heap[b]? =some (.deferred (some [])),?_,⟨ax.o,P.o,K.o⟩,?_⟩
   ·intro _ A A' row h hg hr;exact⟨h.1.marks hg (fun r e=>⟨by have:=(hr r e).1;omega,(hr r e).2⟩),h.2.1.marks hg (fun r e=>(hr r e).2),(hg.block b (L6.1 h.2.2).1 (fun e=>by have:=(hr b e.symm).1;omega)).trans h.2.2⟩
   rintro W6⟨f8,f9,g0⟩;have m:=H f8;replace P:=H f9;replace K:=H g0;clear f8 f9 g0 ax;obtain⟨u,b6,M,hM,b0⟩:=m.bl;have HM:=H hM;have z:=H b0;have G:=H b6;clear hM b0 b6;have e0:M.length=s.2.1.length:=by rw[<-HM.o,LI]
   have V:=H (KeepsFrom.refl w2.heap.size W6)
   gi_wp2
   have hK:=(show(fun W':World=>W'.cell? w.heap.size=some (f.C:Y)) W6 from m.bc.cell);refine cc (S:=(fun W':World=>W'.cell? w.heap.size=some (f.C:Y))) O IG IG hK (fun q=> ?_);clear hK;have i:=(L3 W6.heap.size W6).drew;replace m:=H (m.below i);replace P:=H (P.below i);replace K:=H ((i.block b (L6.1 K.o).1).trans K.o);replace z:=H (z.below i);replace G:=H (G.below i);replace V:=H (KeepsFrom.trans V.o ((show KeepsFrom w2.heap.size W6 W6.drew from⟨L4 _,fun _ _ _ h _=>h⟩)));clear i;generalize W6.drew=W7 at m P K z G V q|-;refine aM 1 2 ?_;refine wpAnyH_ready (rs:=[0,3]) IG FE ?_;refine AllReadyH.cons (by simp only[Lt,Lo];rfl) (fun E d=> ?_) (AllReadyH.cons (by simp only[Lt,Ls,Lo];rfl) (fun E d=> ?_) AllReadyH.nil)
   ·have cL:=G.cell;go_simp;refine d.out _ _ (m.bc.cell) ?_;clear d E q;refine fun q=>aW ?_;clear cL;refine aZ 3 fun E d=> ?_;go_simp;refine(jY f s.1 v W7 m.cn m.ok O).mono ?_;rintro e I⟨a,g,rfl,b5,X,p⟩;replace V:=H (KeepsFrom.trans V.o (br m.cn p w2.heap.size));replace K:=H ((br m.cn p 0).same b _ (LW _) K.o Z);replace P:=H (P.sT m.cn p D D D D D D);replace z:=H (z.sT m.cn p);replace G:=H (G.sT m.cn p D D D D D D);replace m:=H (m.step X (m.ok.nY v) p);have F:=H b5;clear b5 X p;unfold dZ;go_simp;refine d.out _ _ (m.bc.cell) ?_;clear d E q;refine fun q=>aW ?_;refine aZ 4 fun E d=> ?_;go_simp;have i:=(L3 I.heap.size I).alloc (L4 _) (.cells (aY (s.1.kl v,a,g)).toArray 53);have HN:=H (bj (aT.new I (s.1.kl v,a,g)));replace m:=H (m.below i);replace P:=H (P.below i);replace K:=H ((i.block b (L6.1 K.o).1).trans K.o);replace z:=H (z.below i);replace G:=H (G.below i);replace F:=H (F.keep i.size (.below i));replace V:=H (KeepsFrom.trans V.o ((KeepsOthers.alloc I (.cells (aY (s.1.kl v,a,g)).toArray 53)).from _));clear i
    skip
    refine d.out _ _ (show(I.alloc (.cells (aY (s.1.kl v,a,g)).toArray 53)).cell? w.heap.size=some (f.C:Y)from m.bc.cell) (fun aC=> ?_);clear d E q;refine aW ?_;change wpAnyH _ _ _ _ _ _ _ _ (I.alloc (.cells (aY (s.1.kl v,a,g)).toArray 53));generalize I.heap.size=NB at HN|-;generalize I.alloc (.cells (aY (s.1.kl v,a,g)).toArray 53)=W9 at HN m P K z G F V aC|-;have q:=aC;clear aC;refine aZ 5 fun E d=> ?_;go_simp;change Calls _ _ #[u,Value.slice (some ⟨NB,0,none⟩) [((s.1.kl v,a,g):cQ)].length 1] _ _;refine(cN W9 (w.heap.size+3) u M z.o NB 0 1 [(s.1.kl v,a,g)] HN.o (fun y hy=>by rw[Lu.1 hy];exact F.o) IH (by have:=m.size;omega)).mono ?_;rintro e w9⟨v',rfl,h1,h2,-⟩;obtain⟨a9,av,ba,-,-⟩:=h1.val;generalize (M++[(s.1.kl v,a,g)]).length=n9 at ba;subst ba;obtain⟨p9,k9⟩:=m.emit HM.o z.o h1 h2;have aa:=G.grown h2 z.ty D;have ak:=(P.grown h2 z.ty D).other (show W.heap.size≠w.heap.size+2 by omega) 0 (.slice a9 n9 av);have b4:=(m.bc.grown h2 z.ty D).cell;have cS:=aa.cell;have cT:=aa.free;have N:=H (k9.same b _ O K.o Z);have j:=H p9;have U:=H ak;have L:=H (KeepsFrom.trans V.o (show KeepsFrom w2.heap.size W9 _ from⟨k9.size,fun k o hB h ho=>k9.same k o O h ho⟩));clear p9 k9 aa ak h1 h2 HN m P K z G F V;go_simp;refine d.out _ _ b4 ?_;clear d E q;refine fun q=>aW ?_;refine aZ 6 fun E d=> ?_;go_simp;refine d.out _ _ (j.bc.cell) (fun aC=> ?_);clear d E q aC cS cT b4
    (try simp only[Act.put,Ld,Li,Lk])
    refine ay ?_ _;unfold Bt;dsimp only;generalize w9.setCell ⟨w.heap.size+2,0,none⟩ (.slice a9 n9 av)=y0 at j U N L|-
    gi_wp2
    have hK:=(show(fun W':World=>W'.cell? w.heap.size=some (f.C:Y)/\W'.cell? ⟨f.C,1,none⟩=some (f.T:Y)/\W'.cell? ⟨w.heap.size+1,0,none⟩=some (now:Y)) y0 from⟨j.bc.cell,j.cn.cell 1 _ Z,j.bn.cell⟩);refine cc (S:=(fun W':World=>W'.cell? w.heap.size=some (f.C:Y)/\W'.cell? ⟨f.C,1,none⟩=some (f.T:Y)/\W'.cell? ⟨w.heap.size+1,0,none⟩=some (now:Y))) O IG IG hK (fun q=> ?_);clear hK;have i:=(L3 y0.heap.size y0).drew;replace j:=H (j.below i);replace U:=H (U.below i);replace N:=H ((i.block b (L6.1 N.o).1).trans N.o);replace L:=H (KeepsFrom.trans L.o (show KeepsFrom w2.heap.size y0 y0.drew from⟨L4 _,fun _ _ _ h _=>h⟩));clear i;generalize y0.drew=y1 at j U N L q|-;refine aA 0 1 2 3 ?_;refine aA 4 5 6 7 ?_;refine aQ 8 ?_;refine aZ 9 fun E d=> ?_;go_simp;refine(aX f (s.1.nY v) y1 j.cn).mono ?_;rintro e y2⟨rfl,i⟩;replace j:=H (j.below i);replace U:=H (U.below i);replace N:=H ((i.block b (L6.1 N.o).1).trans N.o);replace L:=H (KeepsFrom.trans L.o ((lM i).from _));clear i;go_simp;refine d.out _ _ (⟨j.bc.cell,j.cn.cell 1 _ Z,j.bn.cell⟩) ?_;clear d E q;refine fun q=>aW ?_;refine aZ 10 fun E d=> ?_;go_simp;refine(mP f.T (s.1.nY v).tm now (s.1.nY v).next y2 j.cn.tm).mono ?_;rintro e y3⟨rfl,hs,X⟩;have J:=nA.Gu (f:=f) X;replace L:=H (KeepsFrom.trans L.o (br j.cn J w2.heap.size));replace N:=H ((br j.cn J 0).same b _ (LW _) N.o Z);replace U:=H (U.sT j.cn J D D D D D D);replace j:=H (show Pd f now w (s.1.out now v) (s.2.1++[s.1.kl v]) y3 from j.step (j.cn.Gx hs X) (cM.o.out hn v) J);clear hs X J;go_simp;refine d.out _ _ (⟨j.bc.cell,j.cn.cell 1 _ Z,j.bn.cell⟩) ?_;clear d E q;refine fun q=>aW ?_;refine ay ?_ _;clear q;unfold Bt;dsimp only
    gi_wp2
    exact⟨⟨L.size,fun k o hB h ho=>L.same k o O h ho⟩,(s.1.out now v,s.2.1++[s.1.kl v],decide (v=0)),⟨cX.1,fun h0=>by simp[h0]⟩,⟨j.o,U.o,d3.o,cX.2.1⟩,N.o⟩
   go_simp;refine(jY f s.1 v W7 m.cn m.ok O).mono ?_;rintro e I⟨a,g,rfl,b5,X,p⟩;replace V:=H (KeepsFrom.trans V.o (br m.cn p w2.heap.size));replace K:=H ((br m.cn p 0).same b _ (LW _) K.o Z);replace P:=H (P.sT m.cn p D D D D D D);replace z:=H (z.sT m.cn p);replace G:=H (G.sT m.cn p D D D D D D);replace m:=H (m.step X (m.ok.nY v) p);have F:=H b5;clear b5 X p;unfold dZ;go_simp;refine d.out _ _ (m.bc.cell) ?_;clear d E q;refine fun q=>aW ?_;refine wpAnyH_ready (rs:=[0,4]) IG FE ?_;refine AllReadyH.cons (by simp only[Lt,Lo];rfl) (fun E d=> ?_) (AllReadyH.cons (by simp only[Lt,Ls,Lo];rfl) (fun E d=> ?_) AllReadyH.nil)
   focus
    have cL:=G.cell;go_simp;refine d.out _ _ (m.bc.cell) ?_;clear d E q;refine fun q=>aW ?_;clear cL;refine aZ 4 fun E d=> ?_;go_simp;have i:=(L3 I.heap.size I).alloc (L4 _) (.cells (aY (s.1.kl v,a,g)).toArray 53);have HN:=H (bj (aT.new I (s.1.kl v,a,g)));replace m:=H (m.below i);replace P:=H (P.below i);replace K:=H ((i.block b (L6.1 K.o).1).trans K.o);replace z:=H (z.below i);replace G:=H (G.below i);replace F:=H (F.keep i.size (.below i));replace V:=H (KeepsFrom.trans V.o ((KeepsOthers.alloc I (.cells (aY (s.1.kl v,a,g)).toArray 53)).from _));clear i
    skip
    refine d.out _ _ (show(I.alloc (.cells (aY (s.1.kl v,a,g)).toArray 53)).cell? w.heap.size=some (f.C:Y)from m.bc.cell) (fun aC=> ?_);clear d E q;refine aW ?_;change wpAnyH _ _ _ _ _ _ _ _ (I.alloc (.cells (aY (s.1.kl v,a,g)).toArray 53));generalize I.heap.size=NB at HN|-;generalize I.alloc (.cells (aY (s.1.kl v,a,g)).toArray 53)=W9 at HN m P K z G F V aC|-;have q:=aC;clear aC
   rotate_left 1
   focus
    go_simp;have i:=(L3 I.heap.size I).alloc (L4 _) (.cells (aY (s.1.kl v,a,g)).toArray 53);have HN:=H (bj (aT.new I (s.1.kl v,a,g)));replace m:=H (m.below i);replace P:=H (P.below i);replace K:=H ((i.block b (L6.1 K.o).1).trans K.o);replace z:=H (z.below i);replace G:=H (G.below i);replace F:=H (F.keep i.size (.below i));replace V:=H (KeepsFrom.trans V.o ((KeepsOthers.alloc I (.cells (aY (s.1.kl v,a,g)).toArray 53)).from _));clear i
    skip
    refine d.out _ _ (show(I.alloc (.cells (aY (s.1.kl v,a,g)).toArray 53)).cell? w.heap.size=some (f.C:Y)from m.bc.cell) (fun aC=> ?_);clear d E q;refine aW ?_;change wpAnyH _ _ _ _ _ _ _ _ (I.alloc (.cells (aY (s.1.kl v,a,g)).toArray 53));generalize I.heap.size=NB at HN|-;generalize I.alloc (.cells (aY (s.1.kl v,a,g)).toArray 53)=W9 at HN m P K z G F V aC|-;have q:=aC;clear aC;refine aZ 0 fun E d=> ?_;have cL:=G.cell;go_simp;refine d.out _ _ (m.bc.cell) ?_;clear d E q;refine fun q=>aW ?_;clear cL
   all_goals
    refine aZ 5 fun E d=> ?_;go_simp;change Calls _ _ #[u,Value.slice (some ⟨NB,0,none⟩) [((s.1.kl v,a,g):cQ)].length 1] _ _;refine(cN W9 (w.heap.size+3) u M z.o NB 0 1 [(s.1.kl v,a,g)] HN.o (fun y hy=>by rw[Lu.1 hy];exact F.o) IH (by have:=m.size;omega)).mono ?_;rintro e w9⟨v',rfl,h1,h2,-⟩;obtain⟨a9,av,ba,-,-⟩:=h1.val;generalize (M++[(s.1.kl v,a,g)]).length=n9 at ba;subst ba;obtain⟨p9,k9⟩:=m.emit HM.o z.o h1 h2;have aa:=G.grown h2 z.ty D;have ak:=(P.grown h2 z.ty D).other (show W.heap.size≠w.heap.size+2 by omega) 0 (.slice a9 n9 av);have b4:=(m.bc.grown h2 z.ty D).cell;have cS:=aa.cell;have cT:=aa.free;have N:=H (k9.same b _ O K.o Z);have j:=H p9;have U:=H ak;have L:=H (KeepsFrom.trans V.o (show KeepsFrom w2.heap.size W9 _ from⟨k9.size,fun k o hB h ho=>k9.same k o O h ho⟩));clear p9 k9 aa ak h1 h2 HN m P K z G F V;go_simp;refine d.out _ _ b4 ?_;clear d E q;refine fun q=>aW ?_;refine aZ 6 fun E d=> ?_;go_simp;refine d.out _ _ (j.bc.cell) (fun aC=> ?_);clear d E q aC cS cT b4
    (try simp only[Act.put,Ld,Li,Lk])
    refine ay ?_ _;unfold Bt;dsimp only;generalize w9.setCell ⟨w.heap.size+2,0,none⟩ (.slice a9 n9 av)=y0 at j U N L|-
    gi_wp2
    have hK:=(show(fun W':World=>W'.cell? w.heap.size=some (f.C:Y)/\W'.cell? ⟨f.C,1,none⟩=some (f.T:Y)/\W'.cell? ⟨w.heap.size+1,0,none⟩=some (now:Y)) y0 from⟨j.bc.cell,j.cn.cell 1 _ Z,j.bn.cell⟩);refine cc (S:=(fun W':World=>W'.cell? w.heap.size=some (f.C:Y)/\W'.cell? ⟨f.C,1,none⟩=some (f.T:Y)/\W'.cell? ⟨w.heap.size+1,0,none⟩=some (now:Y))) O IG IG hK (fun q=> ?_);clear hK;have i:=(L3 y0.heap.size y0).drew;replace j:=H (j.below i);replace U:=H (U.below i);replace N:=H ((i.block b (L6.1 N.o).1).trans N.o);replace L:=H (KeepsFrom.trans L.o (show KeepsFrom w2.heap.size y0 y0.drew from⟨L4 _,fun _ _ _ h _=>h⟩));clear i;generalize y0.drew=y1 at j U N L q|-;refine aA 0 1 2 3 ?_;refine aA 4 5 6 7 ?_;refine aQ 8 ?_;refine aZ 9 fun E d=> ?_;go_simp;refine(aX f (s.1.nY v) y1 j.cn).mono ?_;rintro e y2⟨rfl,i⟩;replace j:=H (j.below i);replace U:=H (U.below i);replace N:=H ((i.block b (L6.1 N.o).1).trans N.o);replace L:=H (KeepsFrom.trans L.o ((lM i).from _));clear i;go_simp;refine d.out _ _ (⟨j.bc.cell,j.cn.cell 1 _ Z,j.bn.cell⟩) ?_;clear d E q;refine fun q=>aW ?_;refine aZ 10 fun E d=> ?_;go_simp;refine(mP f.T (s.1.nY v).tm now (s.1.nY v).next y2 j.cn.tm).mono ?_;rintro e y3⟨rfl,hs,X⟩;have J:=nA.Gu (f:=f) X;replace L:=H (KeepsFrom.trans L.o (br j.cn J w2.heap.size));replace N:=H ((br j.cn J 0).same b _ (LW _) N.o Z);replace U:=H (U.sT j.cn J D D D D D D);replace j:=H (show Pd f now w (s.1.out now v) (s.2.1++[s.1.kl v]) y3 from j.step (j.cn.Gx hs X) (cM.o.out hn v) J);clear hs X J;go_simp;refine d.out _ _ (⟨j.bc.cell,j.cn.cell 1 _ Z,j.bn.cell⟩) ?_;clear d E q;refine fun q=>aW ?_;refine ay ?_ _;clear q;unfold Bt;dsimp only
    gi_wp2
    exact⟨⟨L.size,fun k o hB h ho=>L.same k o O h ho⟩,(s.1.out now v,s.2.1++[s.1.kl v],decide (v=0)),⟨cX.1,fun h0=>by simp[h0]⟩,⟨j.o,U.o,d3.o,cX.2.1⟩,N.o⟩
  case GY =>
   intro D2 W5 s2 h9 b7 c6 c9;obtain⟨⟨al,hB,hlen,c7⟩,bb⟩:=b7;have HE:=H (Ah c6 c7);have d5:=H al;have e5:=H bb;have d6:=H c9;clear al hB c7 c6 c5 cV be ax bb c9;obtain⟨u,b6,M,hM,b0⟩:=d5.bl;have cL:=b6.cell;have z:=H (show aL W5 (w.heap.size+3) u s2.2.1 from⟨M,hM,b0⟩);clear b6 hM b0;go_wp2_with fail;have h3:b≠D2:=O
   have bu:(W5.putObj D2 (.deferred none)).heap[b]? =some (.deferred (some [])):=(World.putObj_heap_other h3).trans e5.o;refine⟨FE,.inl ⟨_,_,Z,run_takeDeferred d6.o,?_⟩⟩;refine⟨FE,.inl ⟨_,_,Z,run_takeDeferred bu,?_⟩⟩;have g2:=grownBy_putObj' W5 D2 (.deferred none);have g3:=grownBy_putObj' (W5.putObj D2 (.deferred none)) b (.deferred none);have m1:∀r,some D2=some r->w.heap.size<=r/\∃o:Obj,W5.heap[r]? =some o/\o.isCells=false:=fun r e=>by cases e;exact⟨O,_,d6.o,Z⟩
   have m2:∀r,some b=some r->w.heap.size<=r/\∃o:Obj,(W5.putObj D2 (.deferred none)).heap[r]? =some o/\o.isCells=false:=fun r e=>by cases e;exact⟨O,_,bu,Z⟩
   have p2:=(d5.marks g2 m1).marks g3 m2;have o2:=(z.marks g2 (fun r e=>(m1 r e).2)).marks g3 (fun r e=>(m2 r e).2)
   have e1:c.o6 now=(s2.1,s2.2.1):=by
    unfold Cn.o6;dsimp only;rw[<-HR.o,<-e3.o];dsimp only;rw[<-d2.o,<-HE.o]
   refine⟨_,results_tmp Z _ _ _,u,Z,?_,?_,p2.ch⟩
   ·rw[e1];exact o2.mono O
   rw[e1];exact p2.cn
end
section
set_option maxHeartbeats 8000000
set_option maxRecDepth 100000
open Go.RowKit Go.Shelf
theorem vz (n:Nat):∀(c:Cn) (l:List Sg),(n7 n c l).2.length<=l.length+n:=by
 induction n with
 | zero=>exact fun c l=>L4 _
 | succ n a =>
  intro c l;unfold n7;split
  ·split
   ·dsimp only;omega
   split
   ·have:=a (AG c ‹Sp›) (l++[c.kZ (‹Sp›:Sp).1 (aK c.gi ‹Sp›).2]);rw[La,Mo]at this;exact L8 this O
   dsimp only;omega
  dsimp only;omega
theorem wF (now:Int)(n:Nat):∀(c:Cn) (l:List Sg),(kr now n c l).2.length<=l.length+n:=by
 induction n with
 | zero=>exact fun c l=>L4 _
 | succ n a =>
  intro c l;unfold kr;split
  ·have:=a (c.out now c.allowed) (l++[c.kl c.allowed]);rw[La,Mo]at this;omega
  dsimp only;omega
theorem oP {c:Cn}(ok:c.Ok)(now:Int):(c.o6 now).2.length<=1250000000000:=by
 have h1:=vz (c.flight.toNat+1) c [];have d:=Cn.Ok.n7 (c.flight.toNat+1) ok [];have e:=ok.flight;unfold Cn.o6;dsimp only;generalize n7 (c.flight.toNat+1) c []=a at h1 d|-;have h2:=wF now (a.1.iq.toNat+1) a.1 a.2;have f:=d.iq;generalize kr now (a.1.iq.toNat+1) a.1 a.2=b at h2|-;rw[M1]at h1;unfold ug;split
 ·rw[La,Mo];omega
 dsimp only;omega
theorem aq (f:Fp) (c:Cn) (now:Int) (w:World) (h:kf f c w) (ok:c.Ok) (hn:aI now) :
  Calls Tryz.prog 45 #[f.C,now] w (dj f w (c.push now).2 (c.push now).1):=by
 have a0:=h.gl.top;have P:=H ok;have b:=H h;have i:=H (nA.refl f w);clear h ok;by_cases h0:c.st=0
 ·have X:=H (show c.push now=(c,[]) by unfold Cn.push;rw[L7 h0]);rw[X.o];have n:decide (c.st=0)=true:=Lc h0
  go_enter Tryz.func45,Tryz.ntmps45
  go_wp2_with fail;refine(bV f c _ b.o).mono ?_;rintro e w1⟨rfl,g⟩;rw[n];clear n h0;go_wp2;go_ret;exact⟨_,Z,aL.nil _ _,b.below g,.A1 g⟩
 obtain⟨A,hA⟩:∃A,A=if ae c.st=true then c.o6 now else(c,[]):=⟨_,Z⟩;have K:=H hA;clear hA;obtain⟨B,hB⟩:∃B,B=A.1.qD A.2:=⟨_,Z⟩;have S:=H hB;clear hB;have X:=H (show c.push now=(B.1.lp now,B.2) by unfold Cn.push;rw[L5 h0];dsimp only;rw[<-K.o,<-S.o]);have c6:=H (show A.1.Ok by rw[K.o];split;exact P.o6 hn;exact P.o);have d7:=H (show A.2.length<=1250000000000 by rw[K.o];split;exact oP P.o now;simp);have s:=H (show B.1.Ok by rw[S.o];exact c6.qD _);rw[X.o];have n:decide (c.st=0)=false:=Lf h0
 go_enter Tryz.func45,Tryz.ntmps45
 have e6:=b;have e7:=i
 go_upto_if 9 with(first | (go_at_call 35;refine(bV f c _ b.o).mono ?_;rintro e w1⟨rfl,z⟩;rw[n];clear n;have c9:=H (b.below z)) | (go_at_call 86;refine(mh f c _ c9.o).mono ?_;rintro e w2⟨rfl,E⟩))
 replace i:=H ((i.trans (.A1 z)).trans (.A1 E));replace b:=H (c9.below E);clear z E h0 c9 e6 e7
 go_cut [5]from 8 to 12 (fun v5 F=>aL F w.heap.size v5 A.2/\kf f A.1 F/\nA f w F)
 case first =>
  cases hs:ae c.st with
  | true =>
   have U:=H (show A=c.o6 now by rw[K.o,L7 hs]);clear hs;go_wp2_with fail;refine(ng f c now _ b.o P.o hn).mono ?_;rintro e w3⟨v,rfl,x,p,j⟩;have HT:=H (show aL w3 w.heap.size v A.2/\kf f A.1 w3/\nA f w w3 from⟨by rw[U.o];exact x.mono i.size,by rw[U.o];exact p,i.trans j⟩);clear x p j;go_wp2_with fail
   go_meet
   case rel=>exact HT.o
  | false =>
   have U:=H (show A=(c,[]) by rw[K.o,L5 (by rw[hs];simp)]);clear hs;go_wp2_with fail
   go_meet
   case rel=>exact⟨by rw[U.o];exact aL.nil _ _,by rw[U.o];exact b.o,i.o⟩
 case rest =>
  obtain⟨x,p,j⟩:=hcut;have l:=H x;replace b:=H p;replace i:=H j;clear x p j;have a2:=b.cell 18 (.int .i64 A.1.pend) Z
  go_upto_if 18 with fail
  go_cut [5]from 13 to 28 (fun v5 F=>aL F w.heap.size v5 B.2/\kf f B.1 F/\nA f w F)
  case first =>
   clear a2;by_cases N:A.1.pend=2
   ·have V:=H (show B=(A.1.qG false,A.2++[A.1.qE dH A.1.next]) by rw[S.o];unfold Cn.qD;rw[L7 N]);have hd:(A.1.pend==2)=true:=Mb.2 N;clear N;obtain⟨M,hM,b0⟩:=l.o;obtain⟨la,lc,rfl,a3,-⟩:=b0.val;have HM:=H hM;have q:=H b0;clear hM b0;have e8:=H (show M.length=A.2.length by rw[<-HM.o,LI]);clear a3;go_wp2_with fail;refine(aX f A.1 _ b.o).mono ?_;rintro e w5⟨rfl,g⟩;replace q:=H (q.below g);replace i:=H (i.trans (.A1 g));replace b:=H (b.below g);clear g;go_wp2_with fail;refine(fV f A.1 dH A.1.next _ b.o c6.o Z).mono ?_;rintro e t⟨a,m,rfl,W,p,j⟩;replace q:=H (q.sT b.o j);replace i:=H (i.trans j);replace b:=H p;have a4:=H W;clear p j W;unfold dZ;have bI:=(L3 t.heap.size t).alloc (L4 _) (.cells (aY (A.1.qE dH A.1.next,a,m)).toArray 53);have HN:=H (bj (aT.new t (A.1.qE dH A.1.next,a,m)));replace q:=H (q.below bI);replace i:=H (i.trans (.A1 bI));replace b:=H (b.below bI);replace a4:=H (a4.keep bI.size (.below bI));clear bI;go_wp2_with fail;change Calls _ _ #[Value.slice la M.length lc,Value.slice (some ⟨t.heap.size,0,none⟩) [((A.1.qE dH A.1.next,a,m):cQ)].length 1] (t.alloc (.cells (aY (A.1.qE dH A.1.next,a,m)).toArray 53)) _;generalize t.heap.size=NB at HN|-;generalize t.alloc (.cells (aY (A.1.qE dH A.1.next,a,m)).toArray 53)=w7 at HN q i b a4|-;refine(cN w7 w.heap.size _ M q.o NB 0 1 [(A.1.qE dH A.1.next,a,m)] HN.o (fun y hy=>by rw[Lu.1 hy];exact a4.o) (by have:=e8.o;have:=d7.o;simp only[Lx,M1];omega) i.size).mono ?_;rintro e w8⟨v',rfl,h1,h2,-⟩;have HT:=H (show aL w8 w.heap.size v' B.2/\kf f B.1 w8/\nA f w w8 from⟨by rw[V.o];exact⟨M++[(A.1.qE dH A.1.next,a,m)],by rw[LN,HM.o];rfl,h1⟩,by rw[V.o];exact b.grown h2 (fun k e=>⟨q.ty k e,L8 a0 (q.lt k e).1⟩),i.grown h2 (fun k e=>(q.lt k e).1)⟩);clear h1 h2;go_wp2_with fail
    go_meet
    case rel=>exact HT.o
   have V:=H (show B=A by rw[S.o];unfold Cn.qD;rw[L5 N]);have hd:(A.1.pend==2)=false:=Ll.2 N;clear N;go_wp2_with fail
   go_meet
   case rel=>exact⟨by rw[V.o];exact l.o,by rw[V.o];exact b.o,i.o⟩
  case rest =>
   obtain⟨x,p,j⟩:=hcut;replace l:=H x;replace b:=H p;replace i:=H j;clear x p j K S c6 d7 X P;obtain⟨d,L⟩:=B;dsimp only at l b s;have a5:=s.flight;have a6:=s.iq
   skip
   go_wp2_with fail;refine(cr f d _ b.o s.sc).mono ?_;rintro e w3⟨rfl,g⟩;replace l:=H (l.below g);replace i:=H (i.trans (.A1 g));replace b:=H (b.below g);clear g;by_cases G:d.flight<=0
   ·have HF:=H G;go_wp2_with fail;refine(mh f d _ b.o).mono ?_;rintro e w4⟨rfl,g⟩;replace l:=H (l.below g);replace i:=H (i.trans (.A1 g));replace b:=H (b.below g);clear g
    cases hs:ae d.st with
    | false =>
     have u:=H (show d.lp now={ d with dl:=eG } by unfold Cn.lp;rw[L7 ⟨G,(by rw[hs];simp)⟩]);clear hs G;have r:=b.cell 30 d.dl.set Z;have ca:=b.cell 31 d.dl.since Z;have cb:=b.cell 32 d.dl.ticks Z;have cf:=b.free 30;have ci:=b.free 31;have I:=b.free 32;go_wp2;go_ret;show dj f w L (d.lp now) _ _;rw[u.o]
     skip
     exact⟨_,Z,l.sT b.o (.Da ((((lh.refl _ _).setCell 30 _).setCell 31 _).setCell 32 _)),(b.set 30 _ { d with dl:=⟨false,d.dl.since,d.dl.ticks⟩ } Z Z Z Z Z |>.set 31 _ { d with dl:=⟨false,0,d.dl.ticks⟩ } Z Z Z Z Z |>.set 32 _ { d with dl:=eG } Z Z Z Z Z),i.trans (.Da ((((lh.refl _ _).setCell 30 _).setCell 31 _).setCell 32 _))⟩
    | true =>
     have HS:=H hs;clear hs;go_wp2_with fail;refine(fU f d _ b.o s.sc (kA s.o) (kB s.o)).mono ?_;rintro e w5⟨rfl,g⟩;replace l:=H (l.below g);replace i:=H (i.trans (.A1 g));replace b:=H (b.below g);clear g;by_cases hu:0<d.iq
     ·have u:=H (show d.lp now=if d.dl.set=true then d else { d with dl:=.wA now d.tm.value } by unfold Cn.lp;rw[L5 (fun h=>h.2 ⟨HS.o,hu⟩)]);have e9:decide (0<d.iq)=true:=Lc hu;clear G;have r:=b.cell 30 d.dl.set Z
      cases hdl:d.dl.set with
      | true =>
       rw[hdl]at r;have J:=H (show d.lp now=d by rw[u.o,L7 hdl]);clear hdl;go_wp2;go_ret;show dj f w L (d.lp now) _ _;rw[J.o];exact⟨_,Z,l.o,b.o,i.o⟩
      | false =>
       rw[hdl]at r;have J:=H (show d.lp now={ d with dl:=.wA now d.tm.value } by rw[u.o,L5 (by rw[hdl];simp)]);clear hdl;have c1:=b.cell 1 f.T Z;go_wp2_with fail;refine(ig f.T d.tm s.tm.1 _ b.tm).mono ?_;rintro e w5⟨rfl,g⟩;replace l:=H (l.below g);replace i:=H (i.trans (.A1 g));replace b:=H (b.below g);clear g r c1;go_wp2_with fail;refine(dR _ _ _).mono ?_;rintro e t⟨rfl,g⟩;replace l:=H (l.below g);replace i:=H (i.trans (.A1 g));replace b:=H (b.below g);clear g;have r:=b.cell 30 d.dl.set Z;have ca:=b.cell 31 d.dl.since Z;have cb:=b.cell 32 d.dl.ticks Z;have cf:=b.free 30;have ci:=b.free 31;have I:=b.free 32;go_wp2;go_ret;show dj f w L (d.lp now) _ _;rw[J.o];exact⟨_,Z,l.sT b.o (.Da ((((lh.refl _ _).setCell 30 _).setCell 31 _).setCell 32 _)),(b.set 30 _ { d with dl:=⟨true,d.dl.since,d.dl.ticks⟩ } Z Z Z Z Z |>.set 31 _ { d with dl:=⟨true,now,d.dl.ticks⟩ } Z Z Z Z Z |>.set 32 _ { d with dl:=.wA now d.tm.value } Z Z Z Z Z),i.trans (.Da ((((lh.refl _ _).setCell 30 _).setCell 31 _).setCell 32 _))⟩
     have u:=H (show d.lp now={ d with dl:=eG } by unfold Cn.lp;rw[L7 ⟨G,(fun h=>hu h.2)⟩]);have e9:decide (0<d.iq)=false:=Lf hu;clear G;have r:=b.cell 30 d.dl.set Z;have ca:=b.cell 31 d.dl.since Z;have cb:=b.cell 32 d.dl.ticks Z;have cf:=b.free 30;have ci:=b.free 31;have I:=b.free 32;go_wp2;go_ret;show dj f w L (d.lp now) _ _;rw[u.o]
     skip
     exact⟨_,Z,l.sT b.o (.Da ((((lh.refl _ _).setCell 30 _).setCell 31 _).setCell 32 _)),(b.set 30 _ { d with dl:=⟨false,d.dl.since,d.dl.ticks⟩ } Z Z Z Z Z |>.set 31 _ { d with dl:=⟨false,0,d.dl.ticks⟩ } Z Z Z Z Z |>.set 32 _ { d with dl:=eG } Z Z Z Z Z),i.trans (.Da ((((lh.refl _ _).setCell 30 _).setCell 31 _).setCell 32 _))⟩
   have u:=H (show d.lp now=if d.dl.set=true then d else { d with dl:=.wA now d.tm.value } by unfold Cn.lp;rw[L5 (fun h=>G h.1)]);have r:=b.cell 30 d.dl.set Z
   cases hdl:d.dl.set with
   | true =>
    rw[hdl]at r;have J:=H (show d.lp now=d by rw[u.o,L7 hdl]);clear hdl;go_wp2;go_ret;show dj f w L (d.lp now) _ _;rw[J.o];exact⟨_,Z,l.o,b.o,i.o⟩
   | false =>
    rw[hdl]at r;have J:=H (show d.lp now={ d with dl:=.wA now d.tm.value } by rw[u.o,L5 (by rw[hdl];simp)]);clear hdl;have c1:=b.cell 1 f.T Z;go_wp2_with fail;refine(ig f.T d.tm s.tm.1 _ b.tm).mono ?_;rintro e w5⟨rfl,g⟩;replace l:=H (l.below g);replace i:=H (i.trans (.A1 g));replace b:=H (b.below g);clear g r c1;go_wp2_with fail;refine(dR _ _ _).mono ?_;rintro e t⟨rfl,g⟩;replace l:=H (l.below g);replace i:=H (i.trans (.A1 g));replace b:=H (b.below g);clear g;have r:=b.cell 30 d.dl.set Z;have ca:=b.cell 31 d.dl.since Z;have cb:=b.cell 32 d.dl.ticks Z;have cf:=b.free 30;have ci:=b.free 31;have I:=b.free 32;go_wp2;go_ret;show dj f w L (d.lp now) _ _;rw[J.o];exact⟨_,Z,l.sT b.o (.Da ((((lh.refl _ _).setCell 30 _).setCell 31 _).setCell 32 _)),(b.set 30 _ { d with dl:=⟨true,d.dl.since,d.dl.ticks⟩ } Z Z Z Z Z |>.set 31 _ { d with dl:=⟨true,now,d.dl.ticks⟩ } Z Z Z Z Z |>.set 32 _ { d with dl:=.wA now d.tm.value } Z Z Z Z Z),i.trans (.Da ((((lh.refl _ _).setCell 30 _).setCell 31 _).setCell 32 _))⟩
end
section
set_option maxRecDepth 100000
open Go.RowKit Go.Shelf
theorem kf.Hu {f:Fp}{c:Cn}{w:World}(h:kf f c w){g:Nat}{m:Cg}(b:eX g m w)(e:eQ<=g):kf { f with G:=g } { c with cg:=m } (w.setCell ⟨f.C,2,none⟩ g):=by
 have a:lh f.C w (w.setCell ⟨f.C,2,none⟩ g):=(lh.refl _ _).setCell 2 _;have d:=aG.BS a h.zs D;refine⟨by rw[LH _ _ _ _ _ _ h.blk];rfl,h.sc.keep (a.block _ h.BU.lt (h.BU.ne h.zs D)) a.size d,h.tm.keep (a.block _ h.BW.lt (h.BW.ne h.zs D)),b.keep (a.block _ b.D4.lt (b.D4.ne h.zs D)),h.bx.keep (a.block _ h.BY.lt (h.BY.ne h.zs D)) (a.block _ h.Cd.lt (h.Cd.ne h.zs D)) a.size d,h.gl.below ((nA.Da a).EU h.hi h.gl.top),⟨h.hi.C,h.hi.S,h.hi.T,e,h.hi.X,h.hi.R⟩⟩
def B5 (f:Fp)(w:World)(d:Cn)(e:Ending)(w':World):Prop:=e= .returned (.tuple #[])/\∃g,w.heap.size<=g/\kf { f with G:=g } d w'/\nA f w w'
set_option maxHeartbeats 4000000 in
theorem rI (f:Fp) (c:Cn) (m:Int) (w:World) (h:kf f c w) (ok:c.Ok) (hm:m=0\/(28<=m/\m<=1099511627776)) :
  Calls Tryz.prog 102 #[f.C,m] w (B5 f w (c.resize m)):=by
 have s:=ok.gi;obtain⟨E,t⟩:=s;have g:=h.gl.top;obtain⟨u,he⟩:=h.gl.err;have p:=H h;have x:=h.cell 7 c.gi Z;have y:=h.free 7;clear h ok;obtain⟨k,a⟩:∃k,k=min c.gi (if m=0 then 28 else m):=⟨_,Z⟩;have F:=H a;have i:28<=k/\k<=1000:=by rw[a];split <;> omega
 have z:=H (show c.resize m={ c with gi:=k,cg:=Bd k } by unfold Cn.resize;rw[<-a]);rw[z.o];have b:=H (p.set 7 (.int .i64 k) { c with gi:=k } Z Z Z Z Z);have q:=H (he.below ((nA.Da (f:=f) ((lh.refl f.C w).setCell 7 (.int .i64 k))).EU p.hi g) D);have d:=H (nA.Da (f:=f) ((lh.refl f.C w).setCell 7 (.int .i64 k)));clear he;by_cases h0:m=0
 focus
  have r:min c.gi 28=k:=by rw[a,L7 h0]
  clear a;subst h0
 rotate_left 1
 focus
  have r:min c.gi m=k:=by rw[a,L5 h0]
  have G:(m==0)=false:=Ll.2 h0;clear a
 all_goals
  skip
  go_enter Tryz.func102,Tryz.ntmps102
  go_wp2_with fail
  skip
  clear r x y;generalize w.setCell ⟨f.C,7,none⟩ (.int .i64 k)=w1 at b q d|-;refine(qt k u w1 q.o i.1 O).mono ?_;rintro e I⟨rfl,j,l⟩;have A:=H j;have n:=d.size;have B:=j.D4.lt;replace d:=H (d.trans (.A1 l));replace b:=H (b.below l);clear l j;have J:=b.cell 2 _ Z;have f2:=b.free 2;go_wp2_with fail
  go_end0
  exact⟨Z,w1.heap.size,n,b.Hu A.o O,d.trans (.Da ((lh.refl _ _).setCell 2 _))⟩
set_option maxHeartbeats 4000000 in
theorem kz (f:Fp) (c:Cn) (s:Sg) (a:Option Addr) (cap:Nat) (w:World) (h:kf f c w) (ok:c.Ok) (hs:s.Ok) (hy:s.syn=true) :
  Calls Tryz.prog 57 #[f.C,dZ s a cap] w (B5 f w (c.meet s)):=by
 have J:=h.gl.top;have K:=h.lt;have L:f.C≠w.heap.size:=O
 have E:=H ok;have cl:=hs.win;obtain⟨p,q⟩:=cl;have M:=H (show s.gi=0\/(28<=s.gi/\s.gi<=1099511627776) by have:=hs.DW hy;omega);have x:=h.cell 12 c.tq Z;have N:=h.cell 8 c.iu Z;have P:=h.free 12;have S:=h.free 8;have hA:=(h.set 12 s.sq { c with tq:=s.sq } Z Z Z Z Z).set 8 s.iu { c with tq:=s.sq,iu:=s.iu } Z Z Z Z Z;have F:nA f w ((w.setCell ⟨f.C,12,none⟩ s.sq).setCell ⟨f.C,8,none⟩ s.iu):=.Da (((lh.refl _ _).setCell 12 _).setCell 8 _);have i:=(L3 ((w.setCell ⟨f.C,12,none⟩ s.sq).setCell ⟨f.C,8,none⟩ s.iu).heap.size ((w.setCell ⟨f.C,12,none⟩ s.sq).setCell ⟨f.C,8,none⟩ s.iu)).alloc (L4 _) (.cells (aY (s,a,cap)).toArray 53);have j:=H (hA.below i);have l:=H (F.trans (.A1 i));have y:=aT.new ((w.setCell ⟨f.C,12,none⟩ s.sq).setCell ⟨f.C,8,none⟩ s.iu) (s,a,cap);rw[Mu,Mu]at y;have k:=H y;clear hA F i y h ok hs hy;unfold dZ
 go_enter Tryz.func57,Tryz.ntmps57
 go_wp2_with fail;change Code.wp _ _ _ _ (((w.setCell ⟨f.C,12,none⟩ s.sq).setCell ⟨f.C,8,none⟩ s.iu).alloc (.cells (aY (s,a,cap)).toArray 53));generalize ((w.setCell ⟨f.C,12,none⟩ s.sq).setCell ⟨f.C,8,none⟩ s.iu).alloc (.cells (aY (s,a,cap)).toArray 53)=w1 at j l k|-;clear x N P S;have r:=(show(fun W:World=>W.cell? ⟨w.heap.size,8,none⟩=some (s.win:Y)) w1 from k.cell _ _ Z);refine az (fun W:World=>W.cell? ⟨w.heap.size,8,none⟩=some (s.win:Y)) (r) fun n=>?_;clear r;have i:=(L3 w1.heap.size w1).drew;replace l:=H (l.trans (.A1 i));replace j:=H (j.below i);replace k:=H (k.below i);clear i;generalize w1.drew=FZ at j l k n|-;refine aA 0 1 2 3 ?_;refine aQ 4 ?_;refine aZ 5 fun z m=> ?_;go_simp;refine(jC f { c with tq:=s.sq,iu:=s.iu } 1 s.win FZ j.o O ⟨p,q⟩).mono ?_;rintro e u⟨rfl,t,b⟩;replace k:=H (k.sT j.o b);replace l:=H (l.trans b);replace j:=H t;clear t b;go_simp;refine m.out _ _ (k.cell _ _ Z) ?_;clear m z n;refine fun n=>aW ?_;refine ay ?_ _;clear n;have G:=H (Cn.Ok.announce ({ E.o with }:Cn.Ok { c with tq:=s.sq,iu:=s.iu }) (a:=1) (w:=s.win) D ⟨p,q⟩);obtain⟨d,A⟩:∃d,d=Cn.announce { c with tq:=s.sq,iu:=s.iu } 1 s.win:=⟨_,Z⟩;have T:=H (show c.meet s=d.resize s.gi by rw[A];rfl);rw[<-A]at j G;clear A E;go_wp2_with fail;have r:=(show(fun W:World=>W.cell? ⟨w.heap.size,9,none⟩=some (s.gi:Y)) u from k.cell _ _ Z);refine az (fun W:World=>W.cell? ⟨w.heap.size,9,none⟩=some (s.gi:Y)) (r) fun n=>?_;clear r;have i:=(L3 u.heap.size u).drew;replace l:=H (l.trans (.A1 i));replace j:=H (j.below i);replace k:=H (k.below i);clear i;generalize u.drew=GZ at j l k n|-;refine aA 0 1 2 3 ?_;refine aQ 4 ?_;refine aZ 5 fun z m=> ?_;go_simp;refine(rI f d s.gi GZ j.o G.o M.o).mono ?_;rintro e w5⟨rfl,g,I,t,b⟩;have U:=H t;have V:=H (l.trans b);have X:=H (k.sT j.o b);have B:=L8 l.size I;clear t b I;go_simp;refine m.out _ _ (X.cell _ _ Z) ?_;clear m z n;refine fun n=>aW ?_;refine ay ?_ _;clear n;go_wp2_with fail
 go_end0
 exact⟨Z,g,B,by rw[T.o];exact U.o,V.o⟩
end
end Go.Proofs.YtcmncipikdpnbaaGreatDoor
