import Derived.Test.YtcmncipikdpnbaaGreatDoorUb20
import Derived.Deep.AppendLies
namespace Go.Proofs.YtcmncipikdpnbaaGreatDoor
section
set_option maxHeartbeats 8000000
set_option maxRecDepth 100000
open Go.RowKit Go.Shelf
def i6 (f:Fp)(w:World)(s:Sg)(d:Cn)(e:Ending)(w':World):Prop:=∃a b,e= .returned (dZ s a b)/\bF w' a s.bl/\kf f d w'/\nA f w w'
theorem pW (f:Fp)(c:Cn)(n:Int)(w:World)(h:kf f c w)(b: -1099511627776<=n/\n<=4398046511104) :
  Calls Tryz.prog 112 #[.pointer (some ⟨f.C,11,none⟩),n] w fun e w'=>e= .returned (c.number n)/\w=w':=by
 have a:=h.cell 12 c.tq Z
 go_enter Tryz.func112,Tryz.ntmps112
 go_wp2_with fail;refine(gt _ _ _).mono ?_;rintro e d⟨rfl,rfl⟩;go_wp2;go_ret;exact⟨Z,Z⟩
theorem rG (f:Fp)(c:Cn)(b:Bool)(n:Int)(w:World)(h:kf f (c.qG b) w)(a: -1099511627776<=n/\n<=4398046511104) :
  Calls Tryz.prog 112 #[.pointer (some ⟨f.C,11,none⟩),n] w fun e w'=>e= .returned (c.number n)/\w=w':=by
 have e:(c.qG b).number n=c.number n:=by cases b <;> rfl
 have:=pW f (c.qG b) n w h a
 rwa [e]at this
theorem aH.oz {W W':World}{base:Nat}{v:Value}{L:List Sp}(h:aH W base v L)(a:Below W.heap.size W W'):aH W' base v L:=by
 refine h.kept (row:=none) (iU a) ?_
 cases v.ownBlock with
 | none=>exact .inl Z
 | some x=>exact .inr FE
theorem oB.Ht {B n₀:Nat}{a:Option Addr}{L:List Sp}{W W':World}(h:oB W n₀ a L)(k:lh B W W')(l:n₀<=W.heap.size)(d:∀e,a=some e->e.block≠B):oB W' n₀ a L:=by
 refine⟨h.small,fun m=> ?_⟩;obtain⟨b,o,f,g,c⟩:=h.cells m;have j:=k.block b (Lb g l) (d _ f);exact⟨b,o,f,g,fun i hi=>⟨(Lg (a:=⟨b,_,none⟩) j).trans (c i hi).1,(Lg (a:=⟨b,_,none⟩) j).trans (c i hi).2⟩⟩
theorem i6.of {f:Fp}{w w':World}{s t:Sg}{d:Cn}{e:Ending}(a:s=t)(h:i6 f w t d e w'):i6 f w s d e w':=a ▸ h
theorem fV (f:Fp) (c:Cn) (g:Sg) (off:Int) (w:World) (h:kf f c w) (ok:c.Ok) (b9:g.bl=[]) :
  Calls Tryz.prog 71 #[f.C,dZ g none 0,off] w (i6 f w (c.qE g off) (c.qG g.syn)):=by
 obtain⟨g1,g2,g3,g4,g5,g6,g7,g8,g9,K,P,f5,U⟩:=g;dsimp only at b9;subst b9;have d3:=h.gl.top;have d:=H (Aq.start h (⟨g1,g2,g3,g4,g5,g6,g7,g8,g9,K,P,[],U⟩,none,0));have t:=H ok;clear h ok;unfold dZ;dsimp only
 go_enter Tryz.func71,Tryz.ntmps71
 go_wp2_with fail;refine(jw f c ⟨g1,g2,g3,g4,g5,g6,g7,g8,g9,K,P,[],U⟩ none 0 off _ d.cn).mono ?_;rintro e w1⟨rfl,hb⟩;replace d:=H (d.below hb);clear hb;generalize HS:c.address ⟨g1,g2,g3,g4,g5,g6,g7,g8,g9,K,P,[],U⟩ off=s;unfold dZ;obtain⟨u,y,z,s4,s5,A,E,s8,s9,F,G,d4,j⟩:=s;obtain rfl:d4=[]:=by have:=congrArg Sg.bl HS;exact this.symm
 dsimp only;have p0:=d.p.free 0;have p1:=d.p.free 1;have p2:=d.p.free 2;have p3:=d.p.free 3;have p4:=d.p.free 4;have p5:=d.p.free 5;have p6:=d.p.free 6;have p7:=d.p.free 7;have p8:=d.p.free 8;have p9:=d.p.free 9;have aa:=d.p.free 10;have a9:=d.p.free 11;have ab:=d.p.free 12;have q0:=d.p.cell 0 _ Z;have q1:=d.p.cell 1 _ Z;have q2:=d.p.cell 2 _ Z;have q3:=d.p.cell 3 _ Z;have q4:=d.p.cell 4 _ Z;have q5:=d.p.cell 5 _ Z;have q6:=d.p.cell 6 _ Z;have q7:=d.p.cell 7 _ Z;have q8:=d.p.cell 8 _ Z;have q9:=d.p.cell 9 _ Z;have bd:=d.p.cell 10 _ Z;have bI:=d.p.cell 11 _ Z;have b1:=d.p.cell 12 _ Z;go_wp2_with fail;change Code.wp _ _ _ _ ((du w1 w.heap.size (⟨u,y,z,s4,s5,A,E,s8,s9,F,G,[],j⟩,none,0)).setCell ⟨w.heap.size,7,none⟩ true);replace d:=H ((d.put (⟨u,y,z,s4,s5,A,E,s8,s9,F,G,[],j⟩,none,0)).EH 7 true (⟨u,y,z,s4,s5,A,E,true,s9,F,G,[],j⟩,none,0) Z);generalize (du w1 w.heap.size (⟨u,y,z,s4,s5,A,E,s8,s9,F,G,[],j⟩,none,0)).setCell ⟨w.heap.size,7,none⟩ true=w2 at d|-;clear p0 p1 p2 p3 p4 p5 p6 p7 p8 p9 aa a9 ab q0 q1 q2 q3 q4 q5 q6 q7 q8 q9 bd bI b1
 go_region_with (first | (go_at_call 41;refine(fy f c _ (d.drewN 1).cn t.bx).mono ?_;rintro e w3⟨rfl,V⟩) | (go_at_call 112;refine(rC f c _ _ ((d.drewN 1).below V).cn (by have:=t.expected;omega)).mono ?_;rintro e w4⟨rfl,S⟩;have p3:=(((d.drewN 1).below V).below S).p.free 3;have q3:=(((d.drewN 1).below V).below S).p.cell 3 _ Z))
 replace d:=H ((((d.drewN 1).below V).below S).EH 3 (c.number c.expected) (⟨u,y,z,c.number c.expected,s5,A,E,true,s9,F,G,[],j⟩,none,0) Z);generalize w4.setCell ⟨w.heap.size,3,none⟩ (c.number c.expected)=w5 at d|-;clear p3 q3 V S;have f0:=d.cn.cell 18 c.pend Z;have dv:=d.cn.free 18;have a0:=d.p.lt;have q0:=d.p.cell 0 _ Z;have q1:=d.p.cell 1 _ Z;have q2:=d.p.cell 2 _ Z;have q3:=d.p.cell 3 _ Z;have q4:=d.p.cell 4 _ Z;have q5:=d.p.cell 5 _ Z;have q6:=d.p.cell 6 _ Z;have q7:=d.p.cell 7 _ Z;have q8:=d.p.cell 8 _ Z;have q9:=d.p.cell 9 _ Z;have bd:=d.p.cell 10 _ Z;have bI:=d.p.cell 11 _ Z;have b1:=d.p.cell 12 _ Z;have r0:=d.r.cell 0 _ Z;have r1:=d.r.cell 1 _ Z;have r2:=d.r.cell 2 _ Z;have r3:=d.r.cell 3 _ Z;have r4:=d.r.cell 4 _ Z;have r5:=d.r.cell 5 _ Z;have r6:=d.r.cell 6 _ Z;have r7:=d.r.cell 7 _ Z;have r8:=d.r.cell 8 _ Z;have r9:=d.r.cell 9 _ Z;have al:=d.r.cell 10 _ Z;have am:=d.r.cell 11 _ Z;have an:=d.r.cell 12 _ Z;have p0:=d.r.free 0;have p1:=d.r.free 1;have p2:=d.r.free 2;have p3:=d.r.free 3;have p4:=d.r.free 4;have p5:=d.r.free 5;have p6:=d.r.free 6;have p7:=d.r.free 7;have p8:=d.r.free 8;have p9:=d.r.free 9;have aa:=d.r.free 10;have a9:=d.r.free 11;have ab:=d.r.free 12;have f1:f.C≠w.heap.size:=fun e=>(d.cn.zs.ne d.p.ty D) e;have cS:f.C≠w.heap.size+1:=fun e=>(d.cn.zs.ne d.r.ty D) e;have hy:s5=g5:=by have:=congrArg Sg.syn HS;exact this.symm
 have q:=H (d.Gy 18 (0:Int) { c with pend:=0 } Z Z Z Z Z)
 cases g5 with
 | true =>
  subst hy;go_wp2_with fail
  have HQ:c.qE ⟨g1,g2,g3,g4,true,g6,g7,g8,g9,K,P,[],U⟩ off=⟨u,y,z,c.number c.expected,true,A,E,true,s9,F,G,[],j⟩:=by
   unfold Cn.qE;rw[L7 Z,HS]
  obtain⟨k1,k2,k3,k4⟩:=q.result (⟨u,y,z,c.number c.expected,true,A,E,true,s9,F,G,[],j⟩,none,0);refine Lm (M3 (p:=6) (ty:=53) Z _ _ (w.heap.size+1) 53 _ (0,0) _ IJ k1 Tryz.underlying53 Z IG) Z (i6.of HQ ⟨none,0,Z,bF.nil _ _,k2,k3⟩)
 | false =>
  subst hy;clear r0 r1 r2 r3 r4 r5 r6 r7 r8 r9 al am an p0 p1 p2 p3 p4 p5 p6 p7 p8 p9 aa a9 ab q0 q1 q2 q3 q5 q6 q7 q8 q9 bd bI b1;go_wp2_with fail;generalize w5.setCell ⟨f.C,18,none⟩ (0:Int)=w6 at q|-;clear d q4 f0 dv;have hr:=t.raised c.gi;have c7:=q.cn.cell 7 c.gi Z
  go_region_with (first | (go_at_call 113;refine(rE f { c with pend:=0 } c.gi _ (q.drewN 1).cn t.bx (by have:=t.ann;dsimp only;omega) (by have:=t.room;dsimp only;omega)).mono ?_;rintro e w7⟨rfl,b0⟩;have c0:=((q.drewN 1).below b0).cn.cell 14 c.ann Z;have f3:=((q.drewN 1).below b0).cn.free 14))
  replace q:=H (((q.drewN 1).below b0).Gy 14 (c.raised c.gi) (c.qG false) Z Z Z Z Z);change Exit.then _ _ _ _ (w7.setCell ⟨f.C,14,none⟩ (c.raised c.gi));generalize w7.setCell ⟨f.C,14,none⟩ (c.raised c.gi)=w8 at q|-;clear b0 c0 f3 c7;have c0:=q.cn.cell 14 (c.raised c.gi) Z;have c2:=q.cn.cell 11 f.X Z;have p8:=q.p.free 8;have q8:=q.p.cell 8 _ Z;have hn:=t.GO;have c3:0<=c.bx.nx:=Lz t.bx.Do t.bx.xK;have c5:IntKind.i64.wrap (c.raised c.gi-c.bx.nx)=c.raised c.gi-c.bx.nx:=LC _ O;have eB:=H c5;clear c5
  go_upto_region 8 with fail
  go_cut []from 43 to 55 (fun wx=>Aq f (c.qG false) w (⟨u,y,z,c.number c.expected,false,A,E,true,c.raised c.gi-c.bx.nx,F,G,[],j⟩,none,0) wx)
  case first =>
   go_region_with (first | (go_at_call 83;refine(co f.X f.R 0 c.bx _ (q.drewN 1).cn.bx).mono ?_;rintro e w9⟨rfl,rfl⟩))
   all_goals
    go_wp2_with fail
    go_meet
    case rel=>rw[eB.o];exact(q.drewN 1).EH 8 (c.raised c.gi-c.bx.nx:Int) (⟨u,y,z,c.number c.expected,false,A,E,true,c.raised c.gi-c.bx.nx,F,G,[],j⟩,none,0) Z
  case rest =>
   replace d:=H hcut;clear hcut q d3 hr a0 f1 cS c0 c2 p8 q8 hn c3;have cT:j=U:=by have:=congrArg Sg.s HS;exact this.symm
   subst cT;have c8:=d.cn.cell 8 c.iu Z;by_cases hb:j=[]/\c.iu=true
   ·have HQ:=H (show c.qE ⟨g1,g2,g3,g4,false,g6,g7,g8,g9,K,P,[],j⟩ off=⟨u,y,z,c.number c.expected,false,A,E,true,c.raised c.gi-c.bx.nx,F,G,(c.bx.rep.map (fun b=>(c.number b.1,c.number b.2))),j⟩ by
     unfold Cn.qE;rw[L5 FE,HS];dsimp only;rw[L7 hb,LD])
    have cV:j.isEmpty=true:=by rw[hb.1];rfl
    have b4:=hb.2;rw[b4]at c8;clear hb;have a0:=d.p.lt;have b1:=d.p.cell 12 _ Z;have c2:=d.cn.cell 11 f.X Z;go_wp2_with fail;refine(jP f.X f.R 0 c.bx _ d.cn.bx t.bx).mono ?_;rintro e wb⟨ba,bc,rfl,a3,f4,b6,b7⟩;replace d:=H (d.below b7);have b2:=H a3;have eC:=H (fun ad (e:ba=some ad)=>show w.heap.size<ad.block from Lb a0 (b6 ad e).1);have eL:=H d.old.size;have d5:=H (fun x (hx:x∈c.bx.rep)=>xm t.bx hx);clear a3 f4 b6 b7 c8 c2 b1 cV b4;generalize c.bx.rep=L at HQ b2 d5;have eS:=b2.small;go_wp2_with fail
    go_loopg [73] L.length (fun g kv wr=>∃(k:Nat) (a:Option Addr) (I:Nat),kv=((k:Int):Y)/\g+k=L.length/\Aq f (c.qG false) w (⟨u,y,z,c.number c.expected,false,A,E,true,c.raised c.gi-c.bx.nx,F,G,((L.map (fun b=>(c.number b.1,c.number b.2))).take k),j⟩,a,I) wr/\aH wr wb.heap.size (.slice a ((L.map (fun b=>(c.number b.1,c.number b.2))).take k).length I) ((L.map (fun b=>(c.number b.1,c.number b.2))).take k)/\oB wr wb.heap.size ba L/\wb.heap.size<=wr.heap.size)
    case atStart=>exact⟨0,none,0,Z,Z,d.o,aH.nil _ _,b2.o,L4 _⟩
    case round =>
     clear d b2;obtain⟨k,a,I,rfl,hg,hA,ho,a3,c6⟩:=hrel;have d:=H hA;have J:=H ho;have b2:=H a3;have ac:=H c6;clear hA ho a3 c6;by_cases hk:k<L.length
     ·obtain⟨b,e0,rfl,b9,c9⟩:=b2.cells O;obtain⟨d0,d1⟩:=c9 k hk;clear c9;have er:(k:Int)<(L.length:Int):=by omega
      have cF:=H (show(L.map (fun b=>(c.number b.1,c.number b.2))).take (k+1)=(L.map (fun b=>(c.number b.1,c.number b.2))).take k++[(c.number L[k].1,c.number L[k].2)] by rw[Lv (by rw[LI];exact hk),List.getElem_map]);have cX:=H (d5.o _ (LP hk));have d6:=H (show((L.map (fun b=>(c.number b.1,c.number b.2))).take k).length=k by rw[Le,LI];omega);generalize L[k]=x at d0 d1 cF cX;generalize (L.map (fun b=>(c.number b.1,c.number b.2))).take k=T at d J cF d6;obtain⟨m,n⟩:=x;dsimp only at d0 d1;have c3:=t.bx.Do;have d7:=t.I4;have e1:=t.bx.most;have e2:=t.bx.xK;have e3:=H (show -1099511627776<=m/\m<=4398046511104 by have:=cX.o;dsimp only at this;omega);have e4:=H (show -1099511627776<=n/\n<=4398046511104 by have:=cX.o;dsimp only at this;omega);clear c3 d7 e1 e2;have be:=(L3 wr.heap.size wr).alloc (L4 _) (.cells #[m,n] 149);have cY:=H ((d.below be).drewN 1);have c1:=H ((J.oz be).oz (Below.drewN' _ 1));have ca:=H (b2.below ((be.trans ((Below.drewN' _ 1).mono be.size)).mono ac.o));have d8:=H (cY.below ((L3 _ _).alloc (L4 _) (.cells #[(c.number m),(c.number n)] 149)));have ax:=H (c1.alloc (.cells #[(c.number m),(c.number n)] 149));have cb:=H (ca.below ((L3 wb.heap.size ((wr.alloc (.cells #[m,n] 149)).drewN 1)).alloc JQ (.cells #[(c.number m),(c.number n)] 149)));clear be
      have e6:=H (show ∀k,(Value.slice a T.length I).ownBlock=some k->w.heap.size<=k/\dX (((wr.alloc (.cells #[m,n] 149)).drewN 1).alloc (.cells #[(c.number m),(c.number n)] 149)) k 149 from fun k e=>by
       have h1:=(ax.lt k e).1
       cases a with
       | none=>cases e
       | some ad=>cases e;exact⟨L8 eL.o h1,ax.ty ad Z⟩)
      have e7:=H (At.new (B:=wr.heap.size+1) (W:=(wr.alloc (.cells #[m,n] 149)).drewN 1) (i:=0) (v:=.int .i64 (c.number m)) (vs:= #[(c.number m),(c.number n)]) 149 FE Z);have e8:=H (At.new (B:=wr.heap.size+1) (W:=(wr.alloc (.cells #[m,n] 149)).drewN 1) (i:=1) (v:=.int .i64 (c.number n)) (vs:= #[(c.number m),(c.number n)]) 149 FE Z);have ch:=H (show T.length<=4398046511104 by rw[d6.o];omega);have bI:=(d.below ((L3 wr.heap.size wr).alloc (L4 _) (.cells #[m,n] 149))).p.cell 11 _ Z;have ci:=cY.p.cell 11 _ Z;have cl:=d8.p.cell 11 _ Z;go_wp2_with fail
      go_region_law (first | (refine ku Z _ _ Z wb.heap.size (.slice a T.length I) T IJ ax.o ch.o (wr.heap.size+1) (c.number m,c.number n) IJ e7.1 e8.1 JQ ?_;intro v4 w4 b5 c4 S;obtain⟨a4,a7,rfl,-⟩:=b5.val;have cL:=H (d8.grown c4 e6.o);have bI:=cL.p.cell 11 _ Z;have a9:=cL.p.free 11) | (go_simp;go_at_call 112;refine(rG f c false _ _ cY.cn (by first | exact e3.o | exact e4.o)).mono ?_;rintro e w3⟨rfl,rfl⟩))
      all_goals
       have d2:(T++[(c.number m,c.number n)]).length=T.length+1:=by rw[La];rfl
       have d9:=H (cL.EH 11 (.slice a4 (T.length+1) a7) (⟨u,y,z,c.number c.expected,false,A,E,true,c.raised c.gi-c.bx.nx,F,G,(T++[(c.number m,c.number n)]),j⟩,a4,a7) (by rw[<-d2];rfl));have b8:=(lh.refl w.heap.size w4).setCell 11 (.slice a4 (T.length+1) a7);have cq:=aR (N:=wb.heap.size) c4 JQ (fun k e=>(ax.lt k e).1);have b3:wb.heap.size<=w4.heap.size:=L8 JQ cq.size;have bk:=H ((cb.below cq).Ht b8 b3 (fun ad e=>by have:=eC.o ad e;omega))
       have bn:=H (show aH (w4.setCell ⟨w.heap.size,11,none⟩ (.slice a4 (T.length+1) a7)) wb.heap.size (.slice a4 (T++[(c.number m,c.number n)]).length a7) (T++[(c.number m,c.number n)])from b5.setCell _ _ _ (fun e=>by
        cases a4 with
        | none=>cases e
        | some ad=>exact(b5.ty ad Z).ne cL.p.ty D (MY e)))
       have bo:wb.heap.size<=(w4.setCell ⟨w.heap.size,11,none⟩ (.slice a4 (T.length+1) a7)).heap.size:=by rw[Mu];exact b3
       clear b5 c4 S b8 cq bI a9 ci cl d2 b3;generalize w4.setCell ⟨w.heap.size,11,none⟩ (.slice a4 (T.length+1) a7)=w5 at d9 bk bn bo|-;go_wp2_with fail
       go_roundg (gk-1)
       case measure=>omega
       case rel=>exact⟨k+1,a4,a7,IK,O,by rw[cF.o];exact d9.o,by rw[cF.o];exact bn.o,bk.o,bo⟩
     obtain rfl:k=L.length:=O
     have HE:=H (show(L.map (fun b=>(c.number b.1,c.number b.2))).take L.length=L.map (fun b=>(c.number b.1,c.number b.2)) by rw[Mc];rw[LI];exact L4 _);replace d:=H (HE.o ▸ d.o);replace J:=H (HE.o ▸ J.o);have da:=H (show(L.map (fun b=>(c.number b.1,c.number b.2))).length<=1099511627776 by rw[LI];exact eS);generalize L.map (fun b=>(c.number b.1,c.number b.2))=M at d J HQ HE da;have a0:=d.p.lt;have q0:=d.p.cell 0 _ Z;have q1:=d.p.cell 1 _ Z;have q2:=d.p.cell 2 _ Z;have q3:=d.p.cell 3 _ Z;have q4:=d.p.cell 4 _ Z;have q5:=d.p.cell 5 _ Z;have q6:=d.p.cell 6 _ Z;have q7:=d.p.cell 7 _ Z;have q8:=d.p.cell 8 _ Z;have q9:=d.p.cell 9 _ Z;have bd:=d.p.cell 10 _ Z;have bI:=d.p.cell 11 _ Z;have b1:=d.p.cell 12 _ Z;have r0:=d.r.cell 0 _ Z;have r1:=d.r.cell 1 _ Z;have r2:=d.r.cell 2 _ Z;have r3:=d.r.cell 3 _ Z;have r4:=d.r.cell 4 _ Z;have r5:=d.r.cell 5 _ Z;have r6:=d.r.cell 6 _ Z;have r7:=d.r.cell 7 _ Z;have r8:=d.r.cell 8 _ Z;have r9:=d.r.cell 9 _ Z;have al:=d.r.cell 10 _ Z;have am:=d.r.cell 11 _ Z;have an:=d.r.cell 12 _ Z;have p0:=d.r.free 0;have p1:=d.r.free 1;have p2:=d.r.free 2;have p3:=d.r.free 3;have p4:=d.r.free 4;have p5:=d.r.free 5;have p6:=d.r.free 6;have p7:=d.r.free 7;have p8:=d.r.free 8;have p9:=d.r.free 9;have aa:=d.r.free 10;have a9:=d.r.free 11;have ab:=d.r.free 12;go_wp2_with fail;obtain⟨k1,k2,k3,k4⟩:=d.result (⟨u,y,z,c.number c.expected,false,A,E,true,c.raised c.gi-c.bx.nx,F,G,M,j⟩,a,I)
     have a6:bF wr a M:=by
      obtain⟨a5,e9,e5,h5,-⟩:=J.at da.o
      cases e5
      exact⟨h5,fun _=>J.ty⟩
     exact Lm (M3 (p:=6) (ty:=53) Z _ _ (w.heap.size+1) 53 _ (0,0) _ IJ k1 Tryz.underlying53 Z IG) Z (i6.of HQ.o ⟨a,I,Z,k4 _ _ a6,k2,k3⟩)
   have HQ:c.qE ⟨g1,g2,g3,g4,false,g6,g7,g8,g9,K,P,[],j⟩ off=⟨u,y,z,c.number c.expected,false,A,E,true,c.raised c.gi-c.bx.nx,F,G,[],j⟩:=by
    unfold Cn.qE;rw[L5 FE,HS];dsimp only;rw[L5 hb]
   have bu:j.isEmpty=false\/(j.isEmpty=true/\c.iu=false):=by
    cases j with
    | nil=>exact .inr ⟨Z,by simpa using hb⟩
    | cons x l=>exact .inl Z
   clear hb;have a0:=d.p.lt;have q0:=d.p.cell 0 _ Z;have q1:=d.p.cell 1 _ Z;have q2:=d.p.cell 2 _ Z;have q3:=d.p.cell 3 _ Z;have q4:=d.p.cell 4 _ Z;have q5:=d.p.cell 5 _ Z;have q6:=d.p.cell 6 _ Z;have q7:=d.p.cell 7 _ Z;have q8:=d.p.cell 8 _ Z;have q9:=d.p.cell 9 _ Z;have bd:=d.p.cell 10 _ Z;have bI:=d.p.cell 11 _ Z;have b1:=d.p.cell 12 _ Z;have r0:=d.r.cell 0 _ Z;have r1:=d.r.cell 1 _ Z;have r2:=d.r.cell 2 _ Z;have r3:=d.r.cell 3 _ Z;have r4:=d.r.cell 4 _ Z;have r5:=d.r.cell 5 _ Z;have r6:=d.r.cell 6 _ Z;have r7:=d.r.cell 7 _ Z;have r8:=d.r.cell 8 _ Z;have r9:=d.r.cell 9 _ Z;have al:=d.r.cell 10 _ Z;have am:=d.r.cell 11 _ Z;have an:=d.r.cell 12 _ Z;have p0:=d.r.free 0;have p1:=d.r.free 1;have p2:=d.r.free 2;have p3:=d.r.free 3;have p4:=d.r.free 4;have p5:=d.r.free 5;have p6:=d.r.free 6;have p7:=d.r.free 7;have p8:=d.r.free 8;have p9:=d.r.free 9;have aa:=d.r.free 10;have a9:=d.r.free 11;have ab:=d.r.free 12
   rcases bu with cV | ⟨cV,b4⟩
   focus
    go_wp2_with fail
   rotate_left 1
   focus
    rw[b4]at c8;go_wp2_with fail
   all_goals
    obtain⟨k1,k2,k3,k4⟩:=d.result (⟨u,y,z,c.number c.expected,false,A,E,true,c.raised c.gi-c.bx.nx,F,G,[],j⟩,none,0);refine Lm (M3 (p:=6) (ty:=53) Z _ _ (w.heap.size+1) 53 _ (0,0) _ IJ k1 Tryz.underlying53 Z IG) Z ⟨none,0,Z,bF.nil _ _,k2,k3⟩
end
section
set_option maxRecDepth 100000
open Go.RowKit Go.Shelf
theorem iG {f:Fp}{d:Cn}{w W:World}{x:cQ}(h:kf f d W)(b:nA f w W)(hr:aT w.heap.size x W)(c:eQ<=w.heap.size)(y:cQ) :
  aT w.heap.size y (du W w.heap.size y)/\kf f d (du W w.heap.size y)/\nA f w (du W w.heap.size y)/\∀a L,bF W a L->bF (du W w.heap.size y) a L :=
 ⟨hr.put,h.GG hr c (eE _ _ _),b.GF (L4 _) (eE _ _ _),fun _ _ e=>e.keep (eE _ _ _).size (jx hr (eE _ _ _))⟩
set_option maxHeartbeats 4000000 in
theorem jy (f:Fp) (c:Cn) (w:World) (h:kf f c w) (ok:c.Ok) :
  Calls Tryz.prog 32 #[f.C] w (i6 f w c.qI c.v6):=by
 have l:=h.gl.top;have a0:=h.lt;have a3:f.C≠w.heap.size:=O
 have m:=h.cell 13 c.room Z;have n:=h.cell 14 c.ann Z;have q:=h.free 14;have dc:=h.cell 25 c.cf.gi Z;have cs:=h.cell 28 c.st Z
 have HO:=H (show Cn.Ok { c with ann:=c.room }from { ok with
  ann:=by have:=ok.room;dsimp only;omega
  FH:=by have:=ok.ring;have:=ok.bx.Do;unfold Cn.most;dsimp only;omega })
 have hA:=h.set 14 c.room { c with ann:=c.room } Z Z Z Z Z;have hX:nA f w (w.setCell ⟨f.C,14,none⟩ c.room):=.Da ((lh.refl _ _).setCell 14 _);have d:=((L3 ((w.setCell ⟨f.C,14,none⟩ c.room)).heap.size (w.setCell ⟨f.C,14,none⟩ c.room)).alloc (L4 _) (.cells (aY (dH,none,0)).toArray 53)).alloc FE (.cells (aY (⟨0,0,0,0,true,false,false,false,0,c.cf.gi,true,[],[]⟩,none,0)).toArray 53);have g:=H (hA.below d);have k:=H (hX.trans (.A1 d));have hR:=aT.new (w.setCell ⟨f.C,14,none⟩ c.room) (dH,none,0);have z:=hR.below ((L3 _ _).alloc (L4 _) (.cells (aY (⟨0,0,0,0,true,false,false,false,0,c.cf.gi,true,[],[]⟩,none,0)).toArray 53));rw[Mu]at z;have b:=H z;clear hA hX d hR z h ok;by_cases h1:c.st=1
 ·have r:=H (show c.qI=Cn.address { c with ann:=c.room } ⟨0,0,0,0,true,false,false,false,0,c.cf.gi,true,[],[]⟩ 0 by unfold Cn.qI;rw[L7 h1];rfl);have t:=H (show c.v6={ c with ann:=c.room } by unfold Cn.v6;rw[L7 h1]);rw[r.o,t.o];rw[h1]at cs;clear h1 r t
  go_enter Tryz.func32,Tryz.ntmps32
  go_wp2_with fail;refine(jw f { c with ann:=c.room } ⟨0,0,0,0,true,false,false,false,0,c.cf.gi,true,[],[]⟩ none 0 0 _ g.o).mono ?_;rintro e w1⟨rfl,d⟩;replace b:=H (b.below d);replace k:=H (k.trans (.A1 d));replace g:=H (g.below d);clear d m n q dc cs;have i:(Cn.address { c with ann:=c.room } ⟨0,0,0,0,true,false,false,false,0,c.cf.gi,true,[],[]⟩ 0).bl=[]:=Z;generalize u:Cn.address { c with ann:=c.room } ⟨0,0,0,0,true,false,false,false,0,c.cf.gi,true,[],[]⟩ 0=s at i|-;obtain⟨A,B,E,F,G,I,J,K,L,M,N,x,P⟩:=s;have S:=H u;clear u;dsimp only at i;subst i;unfold dZ;dsimp only;have r0:=b.cell 0 _ Z;have r1:=b.cell 1 _ Z;have r2:=b.cell 2 _ Z;have r3:=b.cell 3 _ Z;have r4:=b.cell 4 _ Z;have r5:=b.cell 5 _ Z;have r6:=b.cell 6 _ Z;have r7:=b.cell 7 _ Z;have r8:=b.cell 8 _ Z;have r9:=b.cell 9 _ Z;have al:=b.cell 10 _ Z;have am:=b.cell 11 _ Z;have an:=b.cell 12 _ Z;have p0:=b.free 0;have p1:=b.free 1;have p2:=b.free 2;have p3:=b.free 3;have p4:=b.free 4;have p5:=b.free 5;have p6:=b.free 6;have p7:=b.free 7;have p8:=b.free 8;have p9:=b.free 9;have aa:=b.free 10;have a9:=b.free 11;have ab:=b.free 12;go_wp2_with fail;obtain⟨T,U,V,k4⟩:=iG g.o k.o b.o l (⟨A,B,E,F,G,I,J,K,L,M,N,[],P⟩,none,0);exact Lm (M3 (p:=2) (ty:=53) Z _ _ w.heap.size 53 _ (0,0) _ IJ T Tryz.underlying53 Z IG) Z (i6.of S.o ⟨none,0,Z,bF.nil _ _,U,V⟩)
 have r:=H (show c.qI=Cn.qE { c with ann:=c.room } ⟨0,0,0,0,true,false,false,false,0,c.cf.gi,true,[],[]⟩ 0 by unfold Cn.qI;rw[L5 h1];rfl);have t:=H (show c.v6=Cn.qG { c with ann:=c.room } true by unfold Cn.v6;rw[L5 h1];rfl);rw[r.o,t.o];have W:(c.st==1)=false:=Ll.2 h1;clear h1 r t
 go_enter Tryz.func32,Tryz.ntmps32
 go_wp2_with fail;refine(fV f { c with ann:=c.room } ⟨0,0,0,0,true,false,false,false,0,c.cf.gi,true,[],[]⟩ 0 _ g.o HO.o Z).mono ?_;rintro e w1⟨a,y,rfl,X,hc,j⟩;replace b:=H (b.sT g.o j);replace k:=H (k.trans j);replace g:=H hc;clear hc j m n q dc cs W;generalize u:Cn.qE { c with ann:=c.room } ⟨0,0,0,0,true,false,false,false,0,c.cf.gi,true,[],[]⟩ 0=s at X|-;have HB:=H X;clear X;obtain⟨A,B,E,F,G,I,J,K,L,M,N,x,P⟩:=s;have S:=H u;clear u;unfold dZ;dsimp only;have r0:=b.cell 0 _ Z;have r1:=b.cell 1 _ Z;have r2:=b.cell 2 _ Z;have r3:=b.cell 3 _ Z;have r4:=b.cell 4 _ Z;have r5:=b.cell 5 _ Z;have r6:=b.cell 6 _ Z;have r7:=b.cell 7 _ Z;have r8:=b.cell 8 _ Z;have r9:=b.cell 9 _ Z;have al:=b.cell 10 _ Z;have am:=b.cell 11 _ Z;have an:=b.cell 12 _ Z;have p0:=b.free 0;have p1:=b.free 1;have p2:=b.free 2;have p3:=b.free 3;have p4:=b.free 4;have p5:=b.free 5;have p6:=b.free 6;have p7:=b.free 7;have p8:=b.free 8;have p9:=b.free 9;have aa:=b.free 10;have a9:=b.free 11;have ab:=b.free 12;go_wp2_with fail;obtain⟨T,U,V,k4⟩:=iG g.o k.o b.o l (⟨A,B,E,F,G,I,J,K,L,M,N,x,P⟩,a,y);exact Lm (M3 (p:=2) (ty:=53) Z _ _ w.heap.size 53 _ (0,0) _ IJ T Tryz.underlying53 Z IG) Z (i6.of S.o ⟨a,y,Z,k4 _ _ HB.o,U,V⟩)
end
section
set_option maxHeartbeats 8000000
set_option maxRecDepth 100000
open Go.RowKit Go.Shelf
theorem aT.facts {B:Nat}{x:cQ}{W:World}(h:aT B x W) :
  (W.cell? B=some (x.1.fp:Y)/\W.cell? ⟨B,1,none⟩=some (x.1.tp:Y)/\W.cell? ⟨B,2,none⟩=some (x.1.sq:Y)/\W.cell? ⟨B,3,none⟩=some (x.1.ak:Y)/\W.cell? ⟨B,4,none⟩=some (x.1.syn:Y)/\W.cell? ⟨B,5,none⟩=some (x.1.fin:Y)/\W.cell? ⟨B,6,none⟩=some (x.1.qa:Y)/\W.cell? ⟨B,7,none⟩=some (x.1.has:Y)/\W.cell? ⟨B,8,none⟩=some (x.1.win:Y)/\W.cell? ⟨B,9,none⟩=some (x.1.gi:Y)/\W.cell? ⟨B,10,none⟩=some (x.1.iu:Y)/\W.cell? ⟨B,11,none⟩=some (.slice x.2.1 x.1.bl.length x.2.2)/\W.cell? ⟨B,12,none⟩=some (.string ⟨x.1.s.toArray⟩)) /\
  W.frozen? B=false/\W.frozen? ⟨B,1,none⟩=false/\W.frozen? ⟨B,2,none⟩=false/\W.frozen? ⟨B,3,none⟩=false/\W.frozen? ⟨B,4,none⟩=false/\W.frozen? ⟨B,5,none⟩=false/\W.frozen? ⟨B,6,none⟩=false/\W.frozen? ⟨B,7,none⟩=false/\W.frozen? ⟨B,8,none⟩=false/\W.frozen? ⟨B,9,none⟩=false/\W.frozen? ⟨B,10,none⟩=false/\W.frozen? ⟨B,11,none⟩=false/\W.frozen? ⟨B,12,none⟩=false :=
 ⟨⟨h.cell 0 _ Z,h.cell 1 _ Z,h.cell 2 _ Z,h.cell 3 _ Z,h.cell 4 _ Z,h.cell 5 _ Z,h.cell 6 _ Z,h.cell 7 _ Z,h.cell 8 _ Z,h.cell 9 _ Z,h.cell 10 _ Z,h.cell 11 _ Z,h.cell 12 _ Z⟩,h.free 0,h.free 1,h.free 2,h.free 3,h.free 4,h.free 5,h.free 6,h.free 7,h.free 8,h.free 9,h.free 10,h.free 11,h.free 12⟩
theorem uK (f:Fp)(c:Cn)(lo hi:Int)(w:World)(h:kf f c w)(ok:c.Ok)(h1: -1099511627776<=lo/\lo<=2199023255552)(h2: -1099511627776<=hi/\hi<=2199023255552) :
  Calls Tryz.prog 169 #[f.C,lo,hi] w fun e w'=>e= .returned (.string ⟨(c.data lo hi).toArray⟩)/\w'=w.drew.drew:=by
 have b:=ok.b0;have a:=ok.E6;have d:=ok.hlen;have g:=h.cell 3 (.string ⟨c.held.toArray⟩) Z;have i:=h.cell 4 c.base Z;have hz:(⟨c.held.toArray⟩:ByteArray).size=c.held.length:=IL
 clear ok
 go_enter Tryz.func169,Tryz.ntmps169
 go_wp2
 go_region
 all_goals
  go_wp2
  go_region
  all_goals
   go_wp2
   go_ret;exact⟨congrArg (fun x=>Ending.returned (.string x)) (iE _ _ _),Z⟩
theorem iH (f:Fp) (c:Cn) (lo hi:Int) (w:World) (h:kf f c w) (ok:c.Ok) (h1: -1099511627776<=lo/\lo<=2199023255552) (h2: -1099511627776<=hi/\hi<=2199023255552) :
  Calls Tryz.prog 136 #[f.C,lo,hi] w (i6 f w (c.kZ lo hi) c.qn):=by
 have t:=h.gl.top;have di:=H h1;have N:=H h2;have A:=H ok;have B:=(L3 w.heap.size w).alloc (L4 _) (.cells (aY (dH,none,0)).toArray 53);have i:=H (h.below B);have j:=H (aT.new w (dH,none,0));have k:=H (nA.A1 (f:=f) B);have r:=(h.below B).cell 9 c.shut Z;have P:=h.lt;have S:f.C≠w.heap.size:=O
 clear B h1 h2
 cases hsh:c.shut with
 | false =>
  rw[hsh]at r;have E:=H (show(c.shut&&decide (c.last<hi))=false by rw[hsh];rfl);have s:=H hsh;clear hsh;have u:=H (show c.kZ lo hi=c.qE ⟨0,0,0,0,false,false,false,false,0,0,false,[],c.data lo hi⟩ lo by unfold Cn.kZ;rw[E.o];rfl);rw[u.o];clear u h ok
  go_enter Tryz.func136,Tryz.ntmps136
  go_wp2_with fail;change Code.wp _ _ _ _ (w.alloc (.cells (aY (dH,none,0)).toArray 53));generalize w.alloc (.cells (aY (dH,none,0)).toArray 53)=W0 at i j k r|-;refine az (fun W:World=>W.cell? ⟨f.C,9,none⟩=some (false:Y)) (r) fun l=>?_;replace i:=H (i.below (L3 _ W0).drew);replace j:=H (j.below (L3 _ W0).drew);replace k:=H (k.trans (.A1 (L3 _ W0).drew));generalize W0.drew=y1 at i j k l|-;clear r;refine aA 0 1 2 3 ?_;refine aA 4 5 7 8 ?_;refine aA 9 10 11 21 ?_;refine aZ 6 fun m d=> ?_;go_simp;refine(uK f c lo hi _ i.o A.o di.o N.o).mono ?_;rintro e T⟨rfl,rfl⟩;have g:=((L3 y1.heap.size y1).drew).drew;replace i:=H (i.below g);replace j:=H (j.below g);replace k:=H (k.trans (.A1 g));generalize y1.drew.drew=y2 at i j k|-;clear g;go_simp;refine d.out _ _ (i.cell 9 false (congrArg (fun b=>some (Value.bool b)) s.o)) ?_;clear d m l;refine fun l=>aW ?_;refine aQ 12 ?_;refine aU 13 ?_;refine aU 14 ?_;refine aU 15 ?_;refine aU 16 ?_;refine aU 17 ?_;refine aU 18 ?_;refine aM 19 20 ?_;refine aZ 22 fun m d=> ?_;go_simp;refine(fV f c ⟨0,0,0,0,false,false,false,false,0,0,false,[],c.data lo hi⟩ lo _ i.o A.o Z).mono ?_;rintro e U⟨a,n,rfl,F,x,q⟩;unfold dZ;have y:=H (j.sT i.o q);have G:=H (k.trans q);obtain⟨⟨V,X,r2,r3,r4,r5,r6,r7,r8,r9,al,am,an⟩,p0,p1,p2,p3,p4,p5,p6,p7,p8,p9,aa,a9,ab⟩:=(y.o).facts;go_simp;refine d.out _ _ (x.cell 9 false (congrArg (fun b=>some (Value.bool b)) s.o)) ?_;clear d m l;refine fun l=>aW ?_;obtain⟨I,z,J,K⟩:=iG x G.o y.o t (c.qE ⟨0,0,0,0,false,false,false,false,0,0,false,[],c.data lo hi⟩ lo,a,n);refine aZ 23 fun m d=> ?_;go_simp;refine d.out _ _ (z.cell 9 false (congrArg (fun b=>some (Value.bool b)) s.o)) ?_;clear d m l;refine fun l=>aW ?_;refine ay ?_ _;go_wp2_with fail;exact Lm (M3 (p:=6) (ty:=53) Z _ _ w.heap.size 53 _ (0,0) _ IJ I Tryz.underlying53 Z IG) Z ⟨a,n,Z,K _ _ F,z,J⟩
 | true =>
  rw[hsh]at r;have L:=ok.b0;have M:=ok.E6;have hl:=ok.hlen;have b9:=H (show -1099511627776<=c.base/\c.base<=1099511627776 by omega);have bb:=H (show c.held.length<=1099511627776 by omega);clear L M hl;have E:=H (show(c.shut&&decide (c.last<hi))=decide (c.last<hi) by rw[hsh];rfl);have s:=H hsh;clear hsh;have u:=H (show c.kZ lo hi=c.qE ⟨0,0,0,0,false,decide (c.last<hi),false,false,0,0,false,[],c.data lo hi⟩ lo by unfold Cn.kZ;rw[E.o];rfl);rw[u.o];clear u h ok
  go_enter Tryz.func136,Tryz.ntmps136
  go_wp2_with fail;change Code.wp _ _ _ _ (w.alloc (.cells (aY (dH,none,0)).toArray 53));generalize w.alloc (.cells (aY (dH,none,0)).toArray 53)=W0 at i j k r|-;refine az (fun W:World=>W.cell? ⟨f.C,9,none⟩=some (true:Y)) (r) fun l=>?_;replace i:=H (i.below (L3 _ W0).drew);replace j:=H (j.below (L3 _ W0).drew);replace k:=H (k.trans (.A1 (L3 _ W0).drew));generalize W0.drew=y1 at i j k l|-;clear r;refine aA 0 1 2 3 ?_;refine aA 4 5 7 8 ?_;refine aA 9 10 11 21 ?_;refine aZ 6 fun m d=> ?_;go_simp;refine(uK f c lo hi _ i.o A.o di.o N.o).mono ?_;rintro e T⟨rfl,rfl⟩;have g:=((L3 y1.heap.size y1).drew).drew;replace i:=H (i.below g);replace j:=H (j.below g);replace k:=H (k.trans (.A1 g));generalize y1.drew.drew=y2 at i j k|-;clear g;go_simp;refine d.out _ _ (i.cell 9 true (congrArg (fun b=>some (Value.bool b)) s.o)) ?_;clear d m l;refine fun l=>aW ?_;refine aA 12 13 14 15 ?_;refine aQ 16 ?_;refine aZ 17 fun m d=> ?_;go_simp;refine(ez f c _ i.o b9.o bb.o).mono ?_;rintro e z2⟨rfl,rfl⟩;have g:=(L3 y2.heap.size y2).drew;replace i:=H (i.below g);replace j:=H (j.below g);replace k:=H (k.trans (.A1 g));generalize y2.drew=y3 at i j k|-;clear g;go_simp;refine d.out _ _ (i.cell 9 true (congrArg (fun b=>some (Value.bool b)) s.o)) ?_;clear d m l;refine fun l=>aW ?_;refine aM 18 19 ?_;refine aQ 20 ?_;refine aZ 22 fun m d=> ?_;go_simp;refine(fV f c ⟨0,0,0,0,false,decide (c.last<hi),false,false,0,0,false,[],c.data lo hi⟩ lo _ i.o A.o Z).mono ?_;rintro e U⟨a,n,rfl,F,x,q⟩;unfold dZ;have y:=H (j.sT i.o q);have G:=H (k.trans q);obtain⟨⟨V,X,r2,r3,r4,r5,r6,r7,r8,r9,al,am,an⟩,p0,p1,p2,p3,p4,p5,p6,p7,p8,p9,aa,a9,ab⟩:=(y.o).facts;go_simp;refine d.out _ _ (x.cell 9 true (congrArg (fun b=>some (Value.bool b)) s.o)) ?_;clear d m l;refine fun l=>aW ?_;obtain⟨I,z,J,K⟩:=iG x G.o y.o t (c.qE ⟨0,0,0,0,false,decide (c.last<hi),false,false,0,0,false,[],c.data lo hi⟩ lo,a,n);refine aZ 23 fun m d=> ?_;go_simp;refine d.out _ _ (z.cell 9 true (congrArg (fun b=>some (Value.bool b)) s.o)) ?_;clear d m l;refine fun l=>aW ?_;refine ay ?_ _;go_wp2_with fail;exact Lm (M3 (p:=6) (ty:=53) Z _ _ w.heap.size 53 _ (0,0) _ IJ I Tryz.underlying53 Z IG) Z ⟨a,n,Z,K _ _ F,z,J⟩
end
section
set_option maxHeartbeats 8000000
set_option maxRecDepth 100000
open Go.RowKit Go.Shelf
theorem jY (f:Fp) (c:Cn) (n:Int) (w:World) (h:kf f c w) (ok:c.Ok) (hn:0<=n/\n<=1073741824) :
  Calls Tryz.prog 117 #[f.C,n] w (i6 f w (c.kl n) (c.nY n)):=by
 have B:=h.gl.top;have P:=H ok;have hu:=ok.fM;obtain⟨a4,a5,a7⟩:=hu;obtain⟨b1,d7⟩:=hn;have T:=ok.b0;have U:=ok.E6;have hl:=ok.hlen;have X:=H (show -1099511627776<=c.base/\c.base<=1099511627776 by omega);have bb:=H (show c.held.length<=1099511627776 by omega);clear T U hl;have t:=(L3 w.heap.size w).alloc (L4 _) (.cells (aY (dH,none,0)).toArray 53);have d:=H (h.below t);have k:=H (aT.new w (dH,none,0));have l:=H (nA.A1 (f:=f) t);clear t h ok
 cases hsh:c.shut with
 | false =>
  have F:=H hsh;have G:=H (show c.kn n=c.next+n by unfold Cn.kn;rw[L5 (by rw[hsh];simp)]);clear hsh;unfold Cn.kl Cn.nY;rw[G.o]
  go_enter Tryz.func117,Tryz.ntmps117
  go_wp2_with fail;refine(aX f c _ d.o).mono ?_;rintro e y⟨rfl,t⟩;replace k:=H (k.below t);replace l:=H (l.trans (.A1 t));replace d:=H (d.below t);clear t;have N:=d.cell 9 false (congrArg (fun b=>some (Value.bool b)) F.o);go_wp2_with fail;refine(iH f c c.next (c.next+n) _ d.o P.o O O).mono ?_;rintro e q⟨a,g,rfl,z,A,m⟩;replace k:=H (k.sT d.o m);replace l:=H (l.trans m);replace d:=H A;have r:=H z;clear A m z;unfold dZ;have c0:=d.cell 0 f.S Z;have bz:=d.lt;have cC:f.C≠q.heap.size:=O
  have i:=(L3 q.heap.size q).alloc (L4 _) (.cells (aY (c.kZ c.next (c.next+n),a,g)).toArray 53);have x:=H (aT.new q (c.kZ c.next (c.next+n),a,g));replace k:=H (k.below i);replace l:=H (l.trans (.A1 i));replace d:=H (d.below i);replace r:=H (r.keep i.size (.below i));clear i;go_wp2_with fail;change Calls _ _ _ (q.alloc (.cells (aY (c.kZ c.next (c.next+n),a,g)).toArray 53)) _;generalize q.alloc (.cells (aY (c.kZ c.next (c.next+n),a,g)).toArray 53)=w4 at d k l r x|-;refine(iA f.S (f.S+1) c.sc (c.next+n) _ d.sc).mono ?_;rintro e w5⟨rfl,u,j⟩;replace k:=H (k.sT d.o (.EK j));replace x:=H (x.sT d.o (.EK j));replace l:=H (l.trans (.EK j));replace r:=H (r.sT d.o (.EK j));replace d:=H (d.FB u j);clear u j;obtain⟨⟨r0,r1,r2,r3,r4,r5,r6,r7,r8,r9,al,am,an⟩,p0,p1,p2,p3,p4,p5,p6,p7,p8,p9,aa,a9,ab⟩:=(k.o).facts;obtain⟨⟨s0,s1,s2,s3,s4,s5,s6,s7,s8,s9,a1,a2,I⟩,u0,u1,u2,u3,u4,u5,u6,u7,u8,u9,dl,dn,dp⟩:=(x.o).facts;go_wp2_with fail;obtain⟨J,K,L,M⟩:=iG d.o l.o k.o B (c.kZ c.next (c.next+n),a,g);exact Lm (M3 (p:=4) (ty:=53) Z _ _ w.heap.size 53 _ (0,0) _ IJ J Tryz.underlying53 Z IG) Z ⟨a,g,Z,M _ _ r.o,K,L⟩
 | true =>
  have F:=H hsh;clear hsh;by_cases E:c.next+n=c.last
  ·have V:=H (show c.kn n=c.next+n+1 by unfold Cn.kn;rw[L7 ⟨F.o,E⟩]);have G:=H E;clear E;unfold Cn.kl Cn.nY;rw[V.o]
   go_enter Tryz.func117,Tryz.ntmps117
   go_wp2_with fail;refine(aX f c _ d.o).mono ?_;rintro e y⟨rfl,t⟩;replace k:=H (k.below t);replace l:=H (l.trans (.A1 t));replace d:=H (d.below t);clear t;have N:=d.cell 9 true (congrArg (fun b=>some (Value.bool b)) F.o);go_wp2_with fail;refine(ez f c _ d.o X.o bb.o).mono ?_;rintro e W⟨rfl,rfl⟩;have s:=(L3 y.heap.size y).drew;replace k:=H (k.below s);replace l:=H (l.trans (.A1 s));replace d:=H (d.below s);clear s N;generalize y.drew=W at d k l|-;have hd:(c.next+n==c.last)=true:=Mb.2 G.o;go_wp2_with fail;refine(iH f c c.next (c.next+n+1) _ d.o P.o O O).mono ?_;rintro e q⟨a,g,rfl,z,A,m⟩;replace k:=H (k.sT d.o m);replace l:=H (l.trans m);replace d:=H A;have r:=H z;clear A m z;unfold dZ;have c0:=d.cell 0 f.S Z;have bz:=d.lt;have cC:f.C≠q.heap.size:=O
   have i:=(L3 q.heap.size q).alloc (L4 _) (.cells (aY (c.kZ c.next (c.next+n+1),a,g)).toArray 53);have x:=H (aT.new q (c.kZ c.next (c.next+n+1),a,g));replace k:=H (k.below i);replace l:=H (l.trans (.A1 i));replace d:=H (d.below i);replace r:=H (r.keep i.size (.below i));clear i;go_wp2_with fail;change Calls _ _ _ (q.alloc (.cells (aY (c.kZ c.next (c.next+n+1),a,g)).toArray 53)) _;generalize q.alloc (.cells (aY (c.kZ c.next (c.next+n+1),a,g)).toArray 53)=w4 at d k l r x|-;refine(iA f.S (f.S+1) c.sc (c.next+n+1) _ d.sc).mono ?_;rintro e w5⟨rfl,u,j⟩;replace k:=H (k.sT d.o (.EK j));replace x:=H (x.sT d.o (.EK j));replace l:=H (l.trans (.EK j));replace r:=H (r.sT d.o (.EK j));replace d:=H (d.FB u j);clear u j;obtain⟨⟨r0,r1,r2,r3,r4,r5,r6,r7,r8,r9,al,am,an⟩,p0,p1,p2,p3,p4,p5,p6,p7,p8,p9,aa,a9,ab⟩:=(k.o).facts;obtain⟨⟨s0,s1,s2,s3,s4,s5,s6,s7,s8,s9,a1,a2,I⟩,u0,u1,u2,u3,u4,u5,u6,u7,u8,u9,dl,dn,dp⟩:=(x.o).facts;go_wp2_with fail;obtain⟨J,K,L,M⟩:=iG d.o l.o k.o B (c.kZ c.next (c.next+n+1),a,g);exact Lm (M3 (p:=4) (ty:=53) Z _ _ w.heap.size 53 _ (0,0) _ IJ J Tryz.underlying53 Z IG) Z ⟨a,g,Z,M _ _ r.o,K,L⟩
  have V:=H (show c.kn n=c.next+n by unfold Cn.kn;rw[L5 (fun h=>E h.2)]);have G:=H E;clear E;unfold Cn.kl Cn.nY;rw[V.o]
  go_enter Tryz.func117,Tryz.ntmps117
  go_wp2_with fail;refine(aX f c _ d.o).mono ?_;rintro e y⟨rfl,t⟩;replace k:=H (k.below t);replace l:=H (l.trans (.A1 t));replace d:=H (d.below t);clear t;have N:=d.cell 9 true (congrArg (fun b=>some (Value.bool b)) F.o);go_wp2_with fail;refine(ez f c _ d.o X.o bb.o).mono ?_;rintro e W⟨rfl,rfl⟩;have s:=(L3 y.heap.size y).drew;replace k:=H (k.below s);replace l:=H (l.trans (.A1 s));replace d:=H (d.below s);clear s N;generalize y.drew=W at d k l|-;have hd:(c.next+n==c.last)=false:=Ll.2 G.o;go_wp2_with fail;refine(iH f c c.next (c.next+n) _ d.o P.o O O).mono ?_;rintro e q⟨a,g,rfl,z,A,m⟩;replace k:=H (k.sT d.o m);replace l:=H (l.trans m);replace d:=H A;have r:=H z;clear A m z;unfold dZ;have c0:=d.cell 0 f.S Z;have bz:=d.lt;have cC:f.C≠q.heap.size:=O
  have i:=(L3 q.heap.size q).alloc (L4 _) (.cells (aY (c.kZ c.next (c.next+n),a,g)).toArray 53);have x:=H (aT.new q (c.kZ c.next (c.next+n),a,g));replace k:=H (k.below i);replace l:=H (l.trans (.A1 i));replace d:=H (d.below i);replace r:=H (r.keep i.size (.below i));clear i;go_wp2_with fail;change Calls _ _ _ (q.alloc (.cells (aY (c.kZ c.next (c.next+n),a,g)).toArray 53)) _;generalize q.alloc (.cells (aY (c.kZ c.next (c.next+n),a,g)).toArray 53)=w4 at d k l r x|-;refine(iA f.S (f.S+1) c.sc (c.next+n) _ d.sc).mono ?_;rintro e w5⟨rfl,u,j⟩;replace k:=H (k.sT d.o (.EK j));replace x:=H (x.sT d.o (.EK j));replace l:=H (l.trans (.EK j));replace r:=H (r.sT d.o (.EK j));replace d:=H (d.FB u j);clear u j;obtain⟨⟨r0,r1,r2,r3,r4,r5,r6,r7,r8,r9,al,am,an⟩,p0,p1,p2,p3,p4,p5,p6,p7,p8,p9,aa,a9,ab⟩:=(k.o).facts;obtain⟨⟨s0,s1,s2,s3,s4,s5,s6,s7,s8,s9,a1,a2,I⟩,u0,u1,u2,u3,u4,u5,u6,u7,u8,u9,dl,dn,dp⟩:=(x.o).facts;go_wp2_with fail;obtain⟨J,K,L,M⟩:=iG d.o l.o k.o B (c.kZ c.next (c.next+n),a,g);exact Lm (M3 (p:=4) (ty:=53) Z _ _ w.heap.size 53 _ (0,0) _ IJ J Tryz.underlying53 Z IG) Z ⟨a,g,Z,M _ _ r.o,K,L⟩
end
section
set_option maxHeartbeats 8000000
set_option maxRecDepth 100000
open Go.RowKit Go.Shelf
theorem Ae {s:Sc}(ok:s.Ok){m:Int}(hm:1<=m):0<=s.pipe m/\s.pipe m<=2199023255552:=by
 obtain⟨p1,a,b⟩:=km ok hm;have h1:=ok.u0;have h2:=ok.n40;have c:=aN ok.DX;have d:=aN (bw ok hm).1;omega
theorem jz (f:Fp) (c:Cn) (w:World) (h:kf f c w) (ok:c.Ok) :
  Calls Tryz.prog 172 #[f.C] w fun e w'=>e= .returned c.allowed/\Below w.heap.size w w':=by
 have B:=H ok;have l:=ok.gi;have hu:=ok.iq;have hx:=ok.fM;have V:=ok.lim;have X:=ok.b0;have a1:=ok.E6;have F:=ok.hlen;have b9:=H (show -1099511627776<=c.base/\c.base<=1099511627776 by omega);have bb:=H (show c.held.length<=1099511627776 by omega);obtain⟨es,a7⟩:=l;obtain⟨a9,b1⟩:=hu;obtain⟨b2,b3,c1⟩:=hx;obtain⟨ea,eb⟩:=V;clear X a1 F ok;have a:=H h;have d:=H (L3 w.heap.size w);clear h
 go_enter Tryz.func172,Tryz.ntmps172
 go_wp2_with fail;refine(fU f c _ a.o B.sc b9.o bb.o).mono ?_;rintro e K⟨rfl,j⟩;replace d:=H (ai d.o j);replace a:=H (a.below j);clear j;have c5:=a.cell 5 c.limit Z;have z:=a.cell 7 c.gi Z;go_wp2_with fail;refine az (fun W:World=>W.cell? ⟨f.C,7,none⟩=some (c.gi:Y)/\W.cell? ⟨f.C,5,none⟩=some (c.limit:Y)) (⟨z,c5⟩) fun k=>?_;replace d:=H (ai d.o (L3 K.heap.size K).drew);replace a:=H (a.below (L3 K.heap.size K).drew);generalize K.drew=w2 at a d k|-;clear c5 z;refine aA 0 1 2 3 ?_;refine aA 4 5 6 7 ?_;refine aA 8 9 10 11 ?_;refine aM 12 13 ?_;refine aZ 14 fun n i=> ?_;go_simp;refine(aX f c _ a.o).mono ?_;rintro e L⟨rfl,j⟩;replace d:=H (ai d.o j);replace a:=H (a.below j);clear j;go_simp;refine i.out _ _ (⟨a.cell 7 c.gi Z,a.cell 5 c.limit Z⟩) ?_;clear i n k;refine fun k=>aW ?_;refine aM 15 16 ?_;refine aQ 17 ?_;refine ay ?_ _;clear k;obtain⟨N,hN⟩:∃N,N=min (min c.iq c.gi) (c.limit-c.next):=⟨_,Z⟩;have ds:(if IntKind.i64.wrap (c.limit-c.next)<(if c.gi<c.iq then c.gi else c.iq)then IntKind.i64.wrap (c.limit-c.next)else if c.gi<c.iq then c.gi else c.iq)=N:=by rw[LC _ O,hN];split <;> split <;> omega
 rw[ds];clear ds;have a2:N<=c.iq/\N<=c.gi:=O
 obtain⟨ec,ed⟩:=a2;have HN:=H hN;clear hN;by_cases h0:N<=0
 ·have HV:=H (show c.allowed=0 from by unfold Cn.allowed;rw[<-HN.o];rw[L7 h0]);go_wp2;go_ret;exact⟨cH HV.symm,d.o⟩
 have H0:=H h0;have a6:1<=N:=O
 clear h0;have h0:¬N<=0:=H0.o;have c0:=a.cell 0 f.S Z;have z:=a.cell 7 c.gi Z;go_wp2_with fail;refine az (fun W:World=>W.cell? f.C=some (f.S:Y)/\W.cell? ⟨f.C,7,none⟩=some (c.gi:Y)) (⟨c0,z⟩) fun k=>?_;replace d:=H (ai d.o (L3 L.heap.size L).drew);replace a:=H (a.below (L3 L.heap.size L).drew);generalize L.drew=w4 at a d k|-;clear c0 z;refine aA 0 1 2 3 ?_;refine aA 4 5 6 7 ?_;refine aM 8 9 ?_;refine aZ 10 fun n i=> ?_;go_simp;refine(me f.S (f.S+1) c.sc c.gi _ B.sc a.sc).mono ?_;rintro e m⟨rfl,j⟩;replace d:=H (ai d.o j);replace a:=H (a.below j);clear j;go_simp;refine i.out _ _ (⟨a.cell 0 f.S Z,a.cell 7 c.gi Z⟩) ?_;clear i n k;refine fun k=>aW ?_;refine aQ 11 ?_;refine ay ?_ _;clear k;have eg:=Ae B.sc (show 1<=c.gi by omega);obtain⟨d2,d3⟩:=eg;have ei:=H (Eq.refl (c.sc.pipe c.gi));generalize hP:c.sc.pipe c.gi=P at d2 d3|-;have HP:=H hP;clear hP ei;have M:∀(T:¬(P≠0/\c.cg.win<P+N)),c.allowed=if N=c.gi\/(N=c.iq/\(c.fM=c.next\/c.shut=true))\/c.largest<=2*N then N else 0:=fun T=>by unfold Cn.allowed;rw[<-HN.o,L5 O,HP.o,L5 T]
 have y:=H M;clear M;have el:=H (show P≠0/\c.cg.win<P+N->c.allowed=0 from fun hy=>by unfold Cn.allowed;rw[<-HN.o,L5 O,HP.o,L7 hy]);have b8:=B.cg;have a3:28<=c.cg.win/\c.cg.win<=65535:=⟨b8.2.2.1,b8.2.2.2.1⟩;obtain⟨em,en⟩:=a3;clear b8;have c2:=a.cell 2 f.G Z;by_cases t:P=0
 focus
  have u:=H (show ¬(P≠0/\c.cg.win<P+N)from fun h=>h.1 t);subst t
 rotate_left 1
 focus
  have c3:(P==0)=false:=Ll.2 t;have eo:=H t;clear t;by_cases E:c.cg.win<P+N
  ·have HV:=H (el.o ⟨eo.o,E⟩);go_wp2_with fail;refine(jS f.G c.cg _ a.cg).mono ?_;rintro e w6⟨rfl,rfl⟩;go_wp2;go_ret;exact⟨cH HV.symm,d.o⟩
  have u:=H (show ¬(P≠0/\c.cg.win<P+N)from fun h=>E h.2);go_wp2_with fail;refine(jS f.G c.cg _ a.cg).mono ?_;rintro e w6⟨rfl,rfl⟩
 all_goals
  go_wp2_with fail;clear c2;by_cases q:N=c.iq
  ·have U:=H q;have a4:(N==c.iq)=true:=Mb.2 q;clear q;by_cases r:c.fM=c.next
   ·have d4:=H r;have a5:(c.fM==c.next)=true:=Mb.2 r;clear r;have x:=a.cell 9 c.shut Z;refine az (fun W:World=>W.cell? ⟨f.C,9,none⟩=some (c.shut:Y)) (x) fun k=>?_;replace d:=H (ai d.o (L3 m.heap.size m).drew);replace a:=H (a.below (L3 m.heap.size m).drew);generalize m.drew=w7 at a d k|-;clear x;refine aA 0 1 2 3 ?_;refine aA 4 5 6 8 ?_;refine aM 9 10 ?_;refine aZ 7 fun n i=> ?_;go_simp;refine(dh f c _ a.o).mono ?_;rintro e w8⟨rfl,j⟩;replace d:=H (ai d.o j);replace a:=H (a.below j);clear j;go_simp;refine i.out _ _ (a.cell 9 c.shut Z) ?_;clear i n k;refine fun k=>aW ?_;refine aZ 11 fun n i=> ?_;go_simp;refine(aX f c _ a.o).mono ?_;rintro e w9⟨rfl,j⟩;replace d:=H (ai d.o j);replace a:=H (a.below j);clear j;go_simp;refine i.out _ _ (a.cell 9 c.shut Z) ?_;clear i n k;refine fun k=>aW ?_;refine aM 12 13 ?_;refine aU 14 ?_;refine aU 15 ?_;refine aU 16 ?_;refine aU 17 ?_;refine aU 18 ?_;refine aM 19 20 ?_;refine aQ 21 ?_;refine ay ?_ _;clear k;have z:=a.cell 7 c.gi Z;have c6:=a.cell 6 c.largest Z;have p:=B.AC;obtain⟨b4,b5⟩:=p;by_cases l:N=c.gi
    ·have s:=H l;have I:(N==c.gi)=true:=Mb.2 l;clear l;go_wp2;go_ret;exact⟨cH ((y.o u.o).trans (L7 (.inl s.o))).symm,d.o⟩
    have s:=H l;have I:(N==c.gi)=false:=Ll.2 l;clear l;go_wp2;go_ret;exact⟨cH ((y.o u.o).trans (L7 (.inr (.inl ⟨U.o,.inl d4.o⟩)))).symm,d.o⟩
   have d4:=H r;have a5:(c.fM==c.next)=false:=Ll.2 r;clear r
   cases hsh:c.shut with
   | true =>
    have A:=H hsh;clear hsh;have x:=a.cell 9 true (congrArg (fun b=>some (Value.bool b)) A.o);refine az (fun W:World=>W.cell? ⟨f.C,9,none⟩=some (true:Y)) (x) fun k=>?_;replace d:=H (ai d.o (L3 m.heap.size m).drew);replace a:=H (a.below (L3 m.heap.size m).drew);generalize m.drew=w7 at a d k|-;clear x;refine aA 0 1 2 3 ?_;refine aA 4 5 6 8 ?_;refine aM 9 10 ?_;refine aZ 7 fun n i=> ?_;go_simp;refine(dh f c _ a.o).mono ?_;rintro e w8⟨rfl,j⟩;replace d:=H (ai d.o j);replace a:=H (a.below j);clear j;go_simp;refine i.out _ _ (a.cell 9 true (congrArg (fun b=>some (Value.bool b)) A.o)) ?_;clear i n k;refine fun k=>aW ?_;refine aZ 11 fun n i=> ?_;go_simp;refine(aX f c _ a.o).mono ?_;rintro e w9⟨rfl,j⟩;replace d:=H (ai d.o j);replace a:=H (a.below j);clear j;go_simp;refine i.out _ _ (a.cell 9 true (congrArg (fun b=>some (Value.bool b)) A.o)) ?_;clear i n k;refine fun k=>aW ?_;refine aA 12 13 14 15 ?_;refine aA 16 17 18 19 ?_;refine aM 20 21 ?_;refine ay ?_ _;clear k;have z:=a.cell 7 c.gi Z;have c6:=a.cell 6 c.largest Z;have p:=B.AC;obtain⟨b4,b5⟩:=p;by_cases l:N=c.gi
    ·have s:=H l;have I:(N==c.gi)=true:=Mb.2 l;clear l;go_wp2;go_ret;exact⟨cH ((y.o u.o).trans (L7 (.inl s.o))).symm,d.o⟩
    have s:=H l;have I:(N==c.gi)=false:=Ll.2 l;clear l;go_wp2;go_ret;exact⟨cH ((y.o u.o).trans (L7 (.inr (.inl ⟨U.o,.inr A.o⟩)))).symm,d.o⟩
   | false =>
    have A:=H hsh;clear hsh;have x:=a.cell 9 false (congrArg (fun b=>some (Value.bool b)) A.o);refine az (fun W:World=>W.cell? ⟨f.C,9,none⟩=some (false:Y)) (x) fun k=>?_;replace d:=H (ai d.o (L3 m.heap.size m).drew);replace a:=H (a.below (L3 m.heap.size m).drew);generalize m.drew=w7 at a d k|-;clear x;refine aA 0 1 2 3 ?_;refine aA 4 5 6 8 ?_;refine aM 9 10 ?_;refine aZ 7 fun n i=> ?_;go_simp;refine(dh f c _ a.o).mono ?_;rintro e w8⟨rfl,j⟩;replace d:=H (ai d.o j);replace a:=H (a.below j);clear j;go_simp;refine i.out _ _ (a.cell 9 false (congrArg (fun b=>some (Value.bool b)) A.o)) ?_;clear i n k;refine fun k=>aW ?_;refine aZ 11 fun n i=> ?_;go_simp;refine(aX f c _ a.o).mono ?_;rintro e w9⟨rfl,j⟩;replace d:=H (ai d.o j);replace a:=H (a.below j);clear j;go_simp;refine i.out _ _ (a.cell 9 false (congrArg (fun b=>some (Value.bool b)) A.o)) ?_;clear i n k;refine fun k=>aW ?_;refine aA 12 13 14 15 ?_;refine aA 16 17 18 19 ?_;refine aM 20 21 ?_;refine ay ?_ _;clear k;have z:=a.cell 7 c.gi Z;have c6:=a.cell 6 c.largest Z;have p:=B.AC;obtain⟨b4,b5⟩:=p;by_cases l:N=c.gi
    ·have s:=H l;have I:(N==c.gi)=true:=Mb.2 l;clear l;go_wp2;go_ret;exact⟨cH ((y.o u.o).trans (L7 (.inl s.o))).symm,d.o⟩
    have s:=H l;have I:(N==c.gi)=false:=Ll.2 l;clear l;by_cases F:c.largest<=2*N
    ·have J:=H F;go_wp2;go_ret;exact⟨cH ((y.o u.o).trans (L7 (.inr (.inr J.o)))).symm,d.o⟩
    have J:=H F;go_wp2;go_ret;exact⟨cH ((y.o u.o).trans (L5 (by rintro (h | h | h);exact s.o h;exact(fun h=>by rcases h.2 with g | g;exact d4.o g;rw[A.o]at g;cases g) h;exact absurd h (by have:=J.o;omega)))).symm,d.o⟩
  have U:=H q;have a4:(N==c.iq)=false:=Ll.2 q;clear q;have x:=a.cell 9 c.shut Z;refine az (fun W:World=>W.cell? ⟨f.C,9,none⟩=some (c.shut:Y)) (x) fun k=>?_;replace d:=H (ai d.o (L3 m.heap.size m).drew);replace a:=H (a.below (L3 m.heap.size m).drew);generalize m.drew=w7 at a d k|-;clear x;refine aA 0 1 2 3 ?_;refine aU 4 ?_;refine aU 5 ?_;refine aU 6 ?_;refine aU 7 ?_;refine aU 8 ?_;refine aU 9 ?_;refine aU 10 ?_;refine aU 11 ?_;refine aU 12 ?_;refine aU 13 ?_;refine aU 14 ?_;refine aU 15 ?_;refine aU 16 ?_;refine aU 17 ?_;refine aU 18 ?_;refine aU 19 ?_;refine aM 20 21 ?_;refine ay ?_ _;clear k;have z:=a.cell 7 c.gi Z;have c6:=a.cell 6 c.largest Z;have p:=B.AC;obtain⟨b4,b5⟩:=p;by_cases l:N=c.gi
  ·have s:=H l;have I:(N==c.gi)=true:=Mb.2 l;clear l;go_wp2;go_ret;exact⟨cH ((y.o u.o).trans (L7 (.inl s.o))).symm,d.o⟩
  have s:=H l;have I:(N==c.gi)=false:=Ll.2 l;clear l;by_cases F:c.largest<=2*N
  ·have J:=H F;go_wp2;go_ret;exact⟨cH ((y.o u.o).trans (L7 (.inr (.inr J.o)))).symm,d.o⟩
  have J:=H F;go_wp2;go_ret;exact⟨cH ((y.o u.o).trans (L5 (by rintro (h | h | h);exact s.o h;exact(fun h=>U.o h.1) h;exact absurd h (by have:=J.o;omega)))).symm,d.o⟩
end
end Go.Proofs.YtcmncipikdpnbaaGreatDoor
