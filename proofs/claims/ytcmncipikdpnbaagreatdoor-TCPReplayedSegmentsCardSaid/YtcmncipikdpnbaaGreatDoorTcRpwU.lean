import Derived.Test.YtcmncipikdpnbaaGreatDoorUb39
import Derived.Test.YtcmncipikdpnbaaGreatDoorTcRpbU
namespace Go.Proofs.YtcmncipikdpnbaaGreatDoor
set_option maxHeartbeats 8000000
set_option maxRecDepth 100000
open Go.ChangeShapes Go.WideShapes Go.ChangeAt Go.RowKit Go.Shelf
structure Rl (N:Nat)(t:Ft)(w:World)(t1:Ft)(q:Pr)(L:List bH)(v:Value)(W:World):Prop where
 st:pE N t w t1 q W
 l:bM W N v L
 nl:∀k,v.ownBlock=some k->¬t1.D k/\w.heap.size<=k
namespace Rl
variable {N : Nat} {t t1 t2 : Ft} {q q' : Pr} {L : List bH} {v : Value} {w W W' : World}
theorem oz (h:Rl N t w t1 q L v W)(a:Below W.heap.size W W'):Rl N t w t1 q L v W':=⟨h.st.oz a,h.l.below a,h.nl⟩
theorem pair (h:Rl N t w t1 q L v W)(k:pE N t1 W t2 q' W'):Rl N t w t2 q' L v W' :=
 ⟨h.st.trans k,h.l.keep k.fr.size k.fr.sp (fun x e=>k.fr.block x (h.l.lt x e).2 (h.nl x e).1),fun x e=>⟨fun a=>by
  rcases k.sub x a with h1 | h1
  ·exact(h.nl x e).1 h1
  ·have:=(h.l.lt x e).2;omega,(h.nl x e).2⟩⟩
theorem new {v':Value}(h:pE N t w t1 q W)(ho:bM W' N v' ([]++L))(b:W.grownBy W' (Value.slice none 0 0).ownBlock)(c:v'.ownBlock=(Value.slice none 0 0).ownBlock\/∃k,v'.ownBlock=some k/\W.heap.size<=k):Rl N t w t1 q L v' W' :=
 ⟨Dl.I9 h (bM.nil W N) (fun k e=>nomatch e) b,ho,fun k e=>by
  rcases c with a | ⟨f,a,h2⟩
  ·rw[a]at e
   cases e
  ·rw[a]at e
   cases e
   exact⟨fun d=>by have:=Dl.Ia h _ d;omega,L8 h.size h2⟩⟩
end Rl
structure Rf (N:Nat)(t:Ft)(w:World)(t1:Ft)(q:Pr)(L:List bH)(v:Value)(F:Nat)(x:bH)(W:World):Prop where
 r:Rl N t w t1 q L v W
 row:aP F x W
 nd:¬t1.D F
 bl:bF W x.2.1 x.1.s.bl
namespace Rf
variable {N F : Nat} {t t1 t2 : Ft} {q q' : Pr} {L : List bH} {v : Value} {x : bH} {w W W' : World}
theorem new (h:Rl N t w t1 q L v W)(b:bF W x.2.1 x.1.s.bl):Rf N t w t1 q L v W.heap.size x (W.alloc (.cells (dF x).toArray 55)):=by
 have a:=(L3 W.heap.size W).alloc (L4 _) (.cells (dF x).toArray 55);exact⟨h.oz a,aP.new W x,fun e=>MD _ (h.st.pa.Gz _ e).1,b.keep a.size (aG.below a)⟩
theorem oz (h:Rf N t w t1 q L v F x W)(a:Below W.heap.size W W'):Rf N t w t1 q L v F x W':=⟨h.r.oz a,h.row.below a,h.nd,h.bl.keep a.size (aG.below a)⟩
theorem pair (h:Rf N t w t1 q L v F x W)(k:pE N t1 W t2 q' W'):Rf N t w t2 q' L v F x W' :=
 ⟨h.r.pair k,(k.fr.block F h.row.lt h.nd).trans h.row,fun e=>by
  rcases k.sub F e with h1 | h1
  ·exact h.nd h1
  ·exact MD _ (Lb h.row.lt h1),h.bl.keep k.fr.size k.fr.sp⟩
end Rf
theorem iu {W:World}{F:Nat}{x:bH}(h:aP F x W):W.rangeAt F 3 (aY (x.1.s,x.2.1,x.2.2)):=fun j v a=>by
 have b:=(ML.1 a).1
 exact h.cell (3+j) v (by
  rw[show dF x=[(bI x.1.dst:Y),x.1.due,x.1.held]++aY (x.1.s,x.2.1,x.2.2)from Z,Mh (by show 3<=_;omega)];rw[show 3+j-[Value.int .i64 (bI x.1.dst),x.1.due,x.1.held].length=j by show 3+j-3=j;omega];exact a)
theorem O6 (W:World) (x:Rw) (hx:x.In) (nn:Int) (d7:(Lit.int .i64 nn).wf=true) (mm:Int) (d8:(Lit.int .i64 mm).wf=true) (a1:Option Addr) (U d4:Nat) (zs:List Int) (h1:mX .i64 W a1 U d4 zs) (gl:Gl W) :
  Calls Tryz.prog 5 #[.agg (lm x).toArray,nn,mm,.slice a1 U d4] W fun e W'=>e= .returned true/\Below W.heap.size W W':=by
 have ag:=H h1;have f0:=BQ h1;clear h1;have HX:=H hx;have HG:=H gl;have HI:=H (show aI nn/\aI mm from And.intro (bounds_i64 d7) (bounds_i64 d8));clear d7 d8;clear hx gl;have HR:=H (tw.new W 23 (lm x));have HB:=H ((L3 W.heap.size W).alloc (L4 _) (.cells (lm x).toArray 23))
 go_enter Tryz.func5,Tryz.ntmps5
 go_upto_region 1 with fail
 change Code.wp _ _ _ _ (W.alloc (.cells (lm x).toArray 23));obtain⟨W0,d9⟩:∃W0,W0=W.heap.size:=⟨_,Z⟩;rw[<-d9]at HR|-;clear d9;generalize W.alloc (.cells (lm x).toArray 23)=w1 at HR HB|-;go_wp2_with fail;refine(xH _ (HG.below (HB.mono HG.top))).mono ?_;rintro e w2⟨rfl,hb⟩;replace HR:=H (HR.below hb);replace HB:=H (HB.trans (hb.mono HB.size));clear hb
 go_upto_region 2 with fail
 have d5:=ah nn 500 D;have T:=ah mm 500 D;obtain⟨nA,hA⟩:∃nA:Nat,aO nn 500=(nA:Int):=⟨(aO nn 500).toNat,O⟩;obtain⟨nB,hB⟩:∃nB:Nat,aO mm 500=(nB:Int):=⟨(aO mm 500).toNat,O⟩;rw[hA]at d5;rw[hB]at T;have bd:=H hA;have be:=H hB;clear hA hB;obtain⟨-,d5⟩:=d5;obtain⟨-,T⟩:=T;refine az (fun W':World=>tw W0 23 (lm x) W') (HR.o) fun E=>?_;replace HR:=H (HR.below (L3 _ _).drew);replace HB:=H HB.drew;generalize w2.drew=w3 at HR HB E|-;have bk:=H (show Calls Tryz.prog 10 #[.agg #[x.Dc,x.DZ,x.gi,x.sw,x.rp,x.keep],.slice none 0 0,(nA:Int),(nB:Int)] w3 (zq x [] nA nB w3)from nW x [] none 0 nA nB w3 HX.o (HG.below (HB.mono HG.top)) ⟨D,(fun _ h=>nomatch h),(fun h=>absurd h D)⟩ O O);refine sA 0 (lm x) (fun _ h=>tw.range h) Tryz.underlying23 IG ?_ (ha:=by((try simp only[Act.put,Ld,Li,Lk,lm]);(try rfl)));refine aM 1 3 ?_;refine aZ 2 fun S u=> ?_;go_simp;refine(dE nn 500 _ HI.1 D D).mono ?_;rintro e wx⟨rfl,rfl⟩;rw[bd.o];go_simp;refine u.out _ _ (HR.o) ?_;clear u S E;refine fun E=>aW ?_;refine aZ 4 fun S u=> ?_;go_simp;refine(dE mm 500 _ HI.2 D D).mono ?_;rintro e wx⟨rfl,rfl⟩;rw[be.o];go_simp;refine u.out _ _ (HR.o) ?_;clear u S E;refine fun E=>aW ?_;refine aZ 5 fun S u=> ?_;go_simp;refine(bk.o).mono ?_;rintro e w4⟨t,rfl,e0,hb⟩;replace HR:=H (HR.below hb);have bn:=H e0;have cX:=H HB.size;replace HB:=H (HB.trans (hb.mono HB.size));clear hb e0;go_simp;refine u.out _ _ (HR.o) ?_;clear u S E;refine fun E=>aW ?_;refine aA 6 7 8 9 ?_;refine aQ 10 ?_;refine ay ?_ _;clear E bk HR bd be;have HP:=H (eK x);have bo:=H (kO x [] nA nB D O O);obtain⟨J,hJ,bu,bv,bx⟩:=O5 x (n:=nA) (m:=nB) O O;have b5:=zn w3.heap.size t (cG x) (eN x [] nA nB) 0 J 1500 w4 bn.o bo.o HP.o (L9 0) O O D bu bv;clear bu bv bo;have ak:=H bx;clear bx;generalize ((eN x [] nA nB).seq J).zx.1=p5 at b5 ak;generalize qA nA nB=NN at ak;generalize cF:(fun i:Bool=>dW (if i=true then 1 else 0) (if i=true then nB else nA))=AA at ak;have c3:=H cF;clear cF;go_wp2_with fail;refine b5.mono ?_;clear b5;rintro e w5⟨rfl,t5,k5⟩;have d:=H k5;clear k5;go_wp2_with fail
 go_loopg [13] 90 (fun g iv wr=>∃(k:Nat) (I:Ft) (p:Pr),iv=((k:Int):Y)/\g+k=90/\pE w3.heap.size t w4 I p wr/\Rp (cG x) NN AA p (3500+k))
 case atStart=>exact⟨0,t5,p5,Z,Z,d.o,ak.o⟩
 clear d ak
 case round =>
  obtain⟨k,I,p,rfl,cY,c7,c8⟩:=hrel;have d:=H c7;have P:=H c8;clear c7 c8;by_cases hk:k<90
  ·have c4:(k:Int)<90:=by omega
   go_wp2_with fail;have ab:=ct w3.heap.size I p wr _ _ d.pa P.ga.al.run.1 (P.ga.al.Di O).1 (P.ga.al.Di O).2 P.ga.al.ml (by have:=P.ga.al.run.2;omega);rw[d.eB]at ab;refine ab.mono ?_;rintro e w6⟨rfl,t6,k6⟩;replace d:=H (d.trans k6);clear ab k6;go_wp2_with fail
   go_roundg (gk-1)
   case measure=>omega
   case rel=>exact⟨k+1,t6,_,IY,O,d.o,by have:=(P.tick HP.o O O).1;rw[show 3500+(k:Int)+1=3500+((k+1:Nat):Int) by omega]at this;exact this⟩
  have e1:k=90:=O
  subst e1;obtain⟨M,hM,how⟩:=d.pa.log;have c0:0<M.length:=by obtain⟨f,hf⟩:=P.lp.ne;rw[<-hM]at hf;obtain⟨y,hy,-⟩:=Md.1 hf;exact List.length_pos_of_mem hy
  obtain⟨g,cg,b2,-,e2,-,b4⟩:=how.cells c0;have f1:M.length<=500000000000:=by have h1:=P.ga.al.run.1.llen;rw[<-hM,LI]at h1;omega
  have ad:=H (show ∀y∈M,y.1∈p.log from fun y hy=>by rw[<-hM];exact Nn hy);clear hM;have e5:wr.cell? ⟨t.B,16,none⟩=some (.slice (some ⟨g,0,none⟩) M.length cg):=by have:=d.cell 16 I.vL Z;rwa [b2]at this
  have cL:=H b4;have cM:=H how.2;clear b2 e2 b4 how
  go_wp2_with (at_builtin;refine cd _ Z _ _ Z w3.heap.size _ [] Z (bM.nil _ _) g 0 cg M Z cL.o cM.o (by show 0+M.length<=_;omega) d.pa.big ?_)
  clear e5;intro v4 w7 ho hg hb;have HL:=H (Rl.new d.o ho hg hb);clear ho hg hb cL cM d;obtain⟨aC,cC,c1⟩:=HL.l.val';subst c1;have a9:=H (show p.a.got=AA true from P.got false);have aa:=H (show p.b.got=AA false from P.got true);have y3:w7.cell? ⟨t.B,3,none⟩=some (.string ⟨(AA true).toArray⟩):=by rw[<-a9.o];exact HL.st.cell 3 (.string ⟨p.a.got.toArray⟩) Z
  have y9:w7.cell? ⟨t.B,9,none⟩=some (.string ⟨(AA false).toArray⟩):=by rw[<-aa.o];exact HL.st.cell 9 (.string ⟨p.b.got.toArray⟩) Z
  clear a9 aa;obtain⟨K2,f3⟩:∃K2,K2=min U 30:=⟨_,Z⟩;go_wp2_with fail
  go_loopg [17] K2 (fun g iv wr=>∃(k:Nat) (I:Ft) (p:Pr),iv=((k:Int):Y)/\g+k=K2/\Rl w3.heap.size t w4 I p M (.slice aC M.length cC) wr/\Rp (cG x) NN AA p (3590+4*(k:Int))/\∀y∈M,y.1∈p.log)
  case atStart=>exact⟨0,I,p,Z,O,HL.o,by rw[show 3590+4*((0:Nat):Int)=3500+((90:Nat):Int) by decide];exact P.o,ad.o⟩
  clear y3 y9 HL P ad
  case round =>
   obtain⟨k,I,p,rfl,cY,c7,c8,cS⟩:=hrel;have d:=H c7;have P:=H c8;have ad:=H cS;clear c7 c8 cS;have b6:=H (HB.trans (d.st.fr.below HB.size (fun kk e6=>L8 cX.o (bn.lo kk e6))));by_cases hk:k<K2
   ·have e7:(k:Int)<(U:Int):=by omega
    have b7:(k:Int)<30:=O
    have e8:=(A3.GN ag.o (K:=K2) O O).2;have b8:=xI ag.o (K:=K2) O O b6.o;obtain⟨bz,oz,rfl,-,e3⟩:=b8.cells O;have b9:k<(zs.take K2).length:=O
    have d0:=e3 k b9;have ba:=H (b8.zu _ (LP b9));generalize (zs.take K2)[k]=z at d0 ba;clear e3 b8 e8 b9;go_wp2_with fail;refine(dE z M.length _ ba.o O O).mono ?_;rintro e wx⟨rfl,rfl⟩;clear d0;have cT:=ah z M.length O;obtain⟨j,hj⟩:∃j:Nat,aO z M.length=(j:Int):=⟨(aO z M.length).toNat,O⟩;rw[hj]at cT|-;clear hj ba;have d6:j<M.length:=O
    have c5:(j:Int)<(M.length:Int):=O
    clear cT;obtain⟨g2,c6,b2,e2,b4⟩:=d.l.at d6
    cases b2
    have bb:=H (d.l.2 M[j] (LP d6));have bc:=H (ad.o M[j] (LP d6));obtain⟨A,e4⟩:∃A,A=M[j]:=⟨_,Z⟩;rw[<-e4]at b4 bb bc;clear e4;have cV:=H (mv b4);clear b4
    go_upto_region 17 with(refine wpList_load_mid Z 55 _ Z g2 (j*16) Z (dF A) _ cV.o Tryz.underlying55 Z dG ?_;(try dsimp only[dF,aY]))
    clear cV;change Code.wp _ _ _ _ (wr.alloc (.cells (dF A).toArray 55));replace d:=H (Rf.new d.o bb.o);clear bb;generalize hF:wr.heap.size=F at d|-;generalize wr.alloc (.cells (dF A).toArray 55)=w7 at d|-;clear hF;have am:=H (P.ke HP.o bc.o);have an:=H (P.ga.al.run.1.log _ bc.o);have a4:=H (uP P.ga.al.run.1 P.ga.al.ml an.o O O);have a6:=H P.ga.al.run.1.zu;have b3:=H P.ga.al.run.1.now;obtain⟨a2,av⟩ | ⟨a2,av⟩:=kL A.1.dst
    focus
     have V:=H (show ∀W:World,aP F A W->W.cell? F=some ((0:Int):Y)from fun W h=>(h.cell 0 (bI A.1.dst) Z).trans (by rw[av]));refine az (fun W:World=>W.cell? F=some ((0:Int):Y)/\W.cell? t.B=some (I.fa.C:Y)) (⟨V.o _ d.row,d.r.st.cell 0 I.fa.C Z⟩) fun E=>?_;replace d:=H (d.oz (L3 _ _).drew);generalize w7.drew=w8 at d E|-;refine aA 0 1 2 3 ?_;refine aA 4 5 6 7 ?_;refine aZ 8 fun S u=> ?_;go_simp;refine(bT I.fa p.a.c _ d.r.st.pa.a).mono ?_;rintro e wq⟨rfl,rfl⟩;go_simp;refine u.out _ _ (⟨V.o _ d.row,d.r.st.cell 0 I.fa.C Z⟩) ?_;clear u S E;refine fun E=>aW ?_;refine aQ 9 ?_;refine ay ?_ _;clear E
     go_upto_region 18 with fail
     have ax:=H (show p.ke A.1=(p.ro false (p.a.c.receive p.now A.1.s).1).put false (p.a.c.receive p.now A.1.s).2 from by unfold Pr.ke;rw[a2];rfl);replace a4:=H (show(p.ro false (p.a.c.receive p.now A.1.s).1).log.length+(p.a.c.receive p.now A.1.s).2.length<=500000000000/\(p.ro false (p.a.c.receive p.now A.1.s).1).wire.length+2*(p.a.c.receive p.now A.1.s).2.length<=500000000000/\(p.ro false (p.a.c.receive p.now A.1.s).1).many+(p.a.c.receive p.now A.1.s).2.length<=1000000000000 from by have:=a4.o;rw[a2]at this;exact this);refine az (fun W:World=>W.cell? F=some ((0:Int):Y)/\W.cell? t.B=some (I.fa.C:Y)/\W.cell? ⟨t.B,13,none⟩=some (p.now:Y)/\W.rangeAt F 3 (aY (A.1.s,A.2.1,A.2.2))) (⟨V.o _ d.row,d.r.st.cell 0 I.fa.C Z,d.r.st.cell 13 p.now Z,iu d.row⟩) fun E=>?_;replace d:=H (d.oz (L3 _ _).drew);generalize w8.drew=IF at d E|-;refine aA 0 1 2 3 ?_;refine aA 4 5 6 7 ?_;refine aA 8 9 10 11 ?_;refine aA 12 13 14 15 ?_;refine sA 16 (aY (A.1.s,A.2.1,A.2.2)) (fun _ h=>h.2.2.2) Tryz.underlying53 ik ?_ (ha:=by((try simp only[Act.put,Ld,Li,Lk,aY]);(try rfl)));refine aZ 17 fun S u=> ?_;go_simp;refine(eh I.fa p.a.c p.now A.1.s A.2.1 A.2.2 _ d.r.st.pa.a P.ga.al.run.1.a.c a6.o an.o d.bl).mono ?_;rintro e w9⟨v,gg,rfl,hl,hc,c9,d1⟩;have k4:=d.r.st.pa.G2 false gg _ hc c9 d1;replace d:=H (d.pair k4);have b0:=H hl;clear hl hc c9 d1 k4;go_simp;refine u.out _ _ (⟨V.o _ d.row,d.r.st.cell 0 I.fa.C Z,d.r.st.cell 13 p.now Z,iu d.row⟩) ?_;clear u S E;refine fun E=>aW ?_;have a0:=cO w3.heap.size _ _ false _ v _ _ d.r.st.pa b0.o a4.1 a4.2.1 a4.2.2 b3.o;rw[d.r.st.eB,show bI false=0 from Z]at a0;replace a0:=H a0;refine aZ 18 fun S u=> ?_;go_simp;refine(a0.o).mono ?_;rintro e wA⟨rfl,t5,k5⟩;have b1:=k5.eC.1;replace d:=H (d.pair k5);clear k5;go_simp;refine u.out _ _ (⟨V.o _ d.row,(d.r.st.cell 0 t5.fa.C Z).trans (by rw[b1];rfl),(d.r.st.cell 13 _ Z).trans (congrArg (fun z=>some (Value.int .i64 z)) (bs _ _ _).2.2.1),iu d.row⟩) ?_;clear u S E;refine fun E=>aW ?_;refine ay ?_ _;clear E b1 a0 b0;replace d:=H (show Rf w3.heap.size t w4 t5 (p.ke A.1) M _ F A wA from by rw[ax.o];exact d.o);have X:=H (show p.a.c.st=0->(p.ke A.1).a.c.st=0 from fun h0=>by rw[show(p.ke A.1).a.c=(p.a.c.receive p.now A.1.s).1 from by have:=(mA p A.1).1;rw[a2]at this;exact this];exact O3 h0 _ _);obtain⟨p2,T⟩:∃p2,p2=p.ke A.1:=⟨_,Z⟩;rw[<-T]at d X am;clear T ax a4 an a6 b3
     go_upto_region 19 with fail
     refine az (fun W:World=>W.cell? F=some ((0:Int):Y)/\W.cell? t.B=some (t5.fa.C:Y)) (⟨V.o _ d.row,d.r.st.cell 0 t5.fa.C Z⟩) fun E=>?_;replace d:=H (d.oz (L3 _ _).drew);generalize wA.drew=wB at d E|-;refine aA 0 1 2 3 ?_;refine aA 4 5 6 7 ?_;refine aZ 8 fun S u=> ?_;go_simp;refine(bT t5.fa p2.a.c _ d.r.st.pa.a).mono ?_;rintro e wq⟨rfl,rfl⟩;go_simp;refine u.out _ _ (⟨V.o _ d.row,d.r.st.cell 0 t5.fa.C Z⟩) ?_;clear u S E;refine fun E=>aW ?_;refine aQ 9 ?_;refine ay ?_ _;clear E V;obtain⟨s0,d2⟩:∃s0,s0=p.a.c.st:=⟨_,Z⟩;obtain⟨s1,d3⟩:∃s1,s1=p2.a.c.st:=⟨_,Z⟩;rw[<-d2,<-d3]at X|-;clear d2 d3 a2 av;replace d:=H d.r
    rotate_left 1
    focus
     have V:=H (show ∀W:World,aP F A W->W.cell? F=some ((1:Int):Y)from fun W h=>(h.cell 0 (bI A.1.dst) Z).trans (by rw[av]));refine az (fun W:World=>W.cell? F=some ((1:Int):Y)/\W.cell? ⟨t.B,6,none⟩=some (I.fb.C:Y)) (⟨V.o _ d.row,d.r.st.cell 6 I.fb.C Z⟩) fun E=>?_;replace d:=H (d.oz (L3 _ _).drew);generalize w7.drew=w8 at d E|-;refine aA 0 1 2 3 ?_;refine aA 4 5 6 7 ?_;refine aZ 8 fun S u=> ?_;go_simp;refine(bT I.fb p.b.c _ d.r.st.pa.b).mono ?_;rintro e wq⟨rfl,rfl⟩;go_simp;refine u.out _ _ (⟨V.o _ d.row,d.r.st.cell 6 I.fb.C Z⟩) ?_;clear u S E;refine fun E=>aW ?_;refine aQ 9 ?_;refine ay ?_ _;clear E
     go_upto_region 18 with fail
     have ax:=H (show p.ke A.1=(p.ro true (p.b.c.receive p.now A.1.s).1).put true (p.b.c.receive p.now A.1.s).2 from by unfold Pr.ke;rw[a2];rfl);replace a4:=H (show(p.ro true (p.b.c.receive p.now A.1.s).1).log.length+(p.b.c.receive p.now A.1.s).2.length<=500000000000/\(p.ro true (p.b.c.receive p.now A.1.s).1).wire.length+2*(p.b.c.receive p.now A.1.s).2.length<=500000000000/\(p.ro true (p.b.c.receive p.now A.1.s).1).many+(p.b.c.receive p.now A.1.s).2.length<=1000000000000 from by have:=a4.o;rw[a2]at this;exact this);refine az (fun W:World=>W.cell? F=some ((1:Int):Y)/\W.cell? ⟨t.B,6,none⟩=some (I.fb.C:Y)/\W.cell? ⟨t.B,13,none⟩=some (p.now:Y)/\W.rangeAt F 3 (aY (A.1.s,A.2.1,A.2.2))) (⟨V.o _ d.row,d.r.st.cell 6 I.fb.C Z,d.r.st.cell 13 p.now Z,iu d.row⟩) fun E=>?_;replace d:=H (d.oz (L3 _ _).drew);generalize w8.drew=IF at d E|-;refine aA 0 1 2 3 ?_;refine aA 4 5 6 7 ?_;refine aA 8 9 10 11 ?_;refine aA 12 13 14 15 ?_;refine sA 16 (aY (A.1.s,A.2.1,A.2.2)) (fun _ h=>h.2.2.2) Tryz.underlying53 ik ?_ (ha:=by((try simp only[Act.put,Ld,Li,Lk,aY]);(try rfl)));refine aZ 17 fun S u=> ?_;go_simp;refine(eh I.fb p.b.c p.now A.1.s A.2.1 A.2.2 _ d.r.st.pa.b P.ga.al.run.1.b.c a6.o an.o d.bl).mono ?_;rintro e w9⟨v,gg,rfl,hl,hc,c9,d1⟩;have k4:=d.r.st.pa.G2 true gg _ hc c9 d1;replace d:=H (d.pair k4);have b0:=H hl;clear hl hc c9 d1 k4;go_simp;refine u.out _ _ (⟨V.o _ d.row,d.r.st.cell 6 I.fb.C Z,d.r.st.cell 13 p.now Z,iu d.row⟩) ?_;clear u S E;refine fun E=>aW ?_;have a0:=cO w3.heap.size _ _ true _ v _ _ d.r.st.pa b0.o a4.1 a4.2.1 a4.2.2 b3.o;rw[d.r.st.eB,show bI true=1 from Z]at a0;replace a0:=H a0;refine aZ 18 fun S u=> ?_;go_simp;refine(a0.o).mono ?_;rintro e wA⟨rfl,t5,k5⟩;have b1:=k5.eC.2.1;replace d:=H (d.pair k5);clear k5;go_simp;refine u.out _ _ (⟨V.o _ d.row,(d.r.st.cell 6 t5.fb.C Z).trans (by rw[b1];rfl),(d.r.st.cell 13 _ Z).trans (congrArg (fun z=>some (Value.int .i64 z)) (bs _ _ _).2.2.1),iu d.row⟩) ?_;clear u S E;refine fun E=>aW ?_;refine ay ?_ _;clear E b1 a0 b0;replace d:=H (show Rf w3.heap.size t w4 t5 (p.ke A.1) M _ F A wA from by rw[ax.o];exact d.o);have X:=H (show p.b.c.st=0->(p.ke A.1).b.c.st=0 from fun h0=>by rw[show(p.ke A.1).b.c=(p.b.c.receive p.now A.1.s).1 from by have:=(mA p A.1).1;rw[a2]at this;exact this];exact O3 h0 _ _);obtain⟨p2,T⟩:∃p2,p2=p.ke A.1:=⟨_,Z⟩;rw[<-T]at d X am;clear T ax a4 an a6 b3
     go_upto_region 19 with fail
     refine az (fun W:World=>W.cell? F=some ((1:Int):Y)/\W.cell? ⟨t.B,6,none⟩=some (t5.fb.C:Y)) (⟨V.o _ d.row,d.r.st.cell 6 t5.fb.C Z⟩) fun E=>?_;replace d:=H (d.oz (L3 _ _).drew);generalize wA.drew=wB at d E|-;refine aA 0 1 2 3 ?_;refine aA 4 5 6 7 ?_;refine aZ 8 fun S u=> ?_;go_simp;refine(bT t5.fb p2.b.c _ d.r.st.pa.b).mono ?_;rintro e wq⟨rfl,rfl⟩;go_simp;refine u.out _ _ (⟨V.o _ d.row,d.r.st.cell 6 t5.fb.C Z⟩) ?_;clear u S E;refine fun E=>aW ?_;refine aQ 9 ?_;refine ay ?_ _;clear E V;obtain⟨s0,d2⟩:∃s0,s0=p.b.c.st:=⟨_,Z⟩;obtain⟨s1,d3⟩:∃s1,s1=p2.b.c.st:=⟨_,Z⟩;rw[<-d2,<-d3]at X|-;clear d2 d3 a2 av;replace d:=H d.r
    rotate_left 1
    all_goals
     have G:=H am.1;have a7:=H am.2;clear am P;go_wp2_with fail;show Calls _ _ #[_,(bI false),_] _ _;have ac:=eF w3.heap.size _ _ false 100 _ _ _ d.st.pa G.ga.al.run.1 (G.ga.al.Di O).1 (G.ga.al.Di O).2 G.ga.al.ml D (L8 (G.ga.al.got false) D);rw[d.st.eB]at ac;refine ac.mono ?_;rintro e wC⟨rfl,tC,k3⟩;replace d:=H (d.pair k3);clear ac k3;have a5:=G.recv false (k:=100) D;replace a7:=H (fun g hg=>a5.2 g (a7.o g hg));replace G:=H a5.1;clear a5;go_wp2_with fail;show Calls _ _ #[_,(bI true),_] _ _;have ac:=eF w3.heap.size _ _ true 100 _ _ _ d.st.pa G.ga.al.run.1 (G.ga.al.Di O).1 (G.ga.al.Di O).2 G.ga.al.ml D (L8 (G.ga.al.got true) D);rw[d.st.eB]at ac;refine ac.mono ?_;rintro e wD⟨rfl,tD,k3⟩;replace d:=H (d.pair k3);clear ac k3;have a5:=G.recv true (k:=100) D;replace a7:=H (fun g hg=>a5.2 g (a7.o g hg));replace G:=H a5.1;clear a5;go_wp2_with fail;have ab:=ct w3.heap.size _ _ _ _ _ d.st.pa G.ga.al.run.1 (G.ga.al.Di O).1 (G.ga.al.Di O).2 G.ga.al.ml (by have:=G.ga.al.run.2;omega);rw[d.st.eB]at ab;refine ab.mono ?_;rintro e wE⟨rfl,tE,k3⟩;replace d:=H (d.pair k3);clear ab k3;have a5:=G.tick HP.o O O;replace a7:=H (fun g hg=>a5.2 g (a7.o g hg));replace G:=H a5.1;clear a5;generalize c2:Pr.tick _=pE at d G a7;clear c2;have a9:=H (show pE.a.got=AA true from G.got false);have aa:=H (show pE.b.got=AA false from G.got true);have y3:wE.cell? ⟨t.B,3,none⟩=some (.string ⟨(AA true).toArray⟩):=by rw[<-a9.o];exact d.st.cell 3 (.string ⟨pE.a.got.toArray⟩) Z
     have y9:wE.cell? ⟨t.B,9,none⟩=some (.string ⟨(AA false).toArray⟩):=by rw[<-aa.o];exact d.st.cell 9 (.string ⟨pE.b.got.toArray⟩) Z
     clear a9 aa;by_cases h0:s0=0
     ·have e9:(s0==0)=true:=Mb.2 h0;have f4:(s1 != 0)=false:=by rw[X.o h0];rfl
      clear h0 X;go_wp2_with fail;clear y3 y9
      go_roundg (gk-1)
      case measure=>omega
      case rel=>exact⟨k+1,tE,pE,IY,O,d.o,by have:=G.o;rw[show 3590+4*(k:Int)+1+1+1+1=3590+4*((k+1:Nat):Int) by omega]at this;exact this,fun y hy=>a7.o _ (ad.o y hy)⟩
     ·have e9:(s0==0)=false:=Ll.2 h0;clear h0 X;go_wp2_with fail;clear y3 y9
      go_roundg (gk-1)
      case measure=>omega
      case rel=>exact⟨k+1,tE,pE,IY,O,d.o,by have:=G.o;rw[show 3590+4*(k:Int)+1+1+1+1=3590+4*((k+1:Nat):Int) by omega]at this;exact this,fun y hy=>a7.o _ (ad.o y hy)⟩
   have a9:=H (show p.a.all=AA false from P.all false);have aa:=H (show p.b.all=AA true from P.all true);have y1:wr.cell? ⟨t.B,1,none⟩=some (.string ⟨(AA false).toArray⟩):=by rw[<-a9.o];exact d.st.cell 1 (.string ⟨p.a.all.toArray⟩) Z
   have y7:wr.cell? ⟨t.B,7,none⟩=some (.string ⟨(AA true).toArray⟩):=by rw[<-aa.o];exact d.st.cell 7 (.string ⟨p.b.all.toArray⟩) Z
   clear a9 aa;have e1:k=K2:=O
   by_cases e7:(k:Int)<(U:Int)
   ·have b7:¬(k:Int)<30:=by omega
    go_wp2;go_ret;exact⟨Z,b6.o⟩
   go_wp2;go_ret;exact⟨Z,b6.o⟩
end Go.Proofs.YtcmncipikdpnbaaGreatDoor
