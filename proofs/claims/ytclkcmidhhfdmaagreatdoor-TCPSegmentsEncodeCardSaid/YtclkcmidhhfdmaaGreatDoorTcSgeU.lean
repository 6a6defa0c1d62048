import Derived.Test.YtclkcmidhhfdmaaGreatDoorUb36
import Derived.Test.YtclkcmidhhfdmaaGreatDoorTcSsmU
import Derived.Test.YtclkcmidhhfdmaaGreatDoorSgDecU
namespace Go.Proofs.YtclkcmidhhfdmaaGreatDoor
open Lib (hid)
set_option maxHeartbeats 8000000
set_option maxRecDepth 100000
open Go.ChangeShapes Go.WideShapes Go.ChangeAt Go.RowKit Go.Shelf
theorem zt {w:World}{g k:Nat}{x:bG}(h:∀j,j<16->∀u,(ct x)[j]? =some u->w.cell? ⟨g,k*16+j,none⟩=some u):w.rangeAt g (k*16+3) (aW (x.1.s,x.2.1,x.2.2)):=fun j v hj=>by
 have hl:=(List.getElem?_eq_some_iff.1 hj).1;have:=h (3+j) (by simp[aW]at hl;omega) v (by rw[show ct x=[(bI x.1.dst:Y),x.1.due,x.1.held]++aW (x.1.s,x.2.1,x.2.2)from rfl,List.getElem?_append_right (by show 3<=_;omega)];rw[show 3+j-[Value.int .i64 (bI x.1.dst),x.1.due,x.1.held].length=j by show 3+j-3=j;omega];exact hj)
 rwa [show k*16+(3+j)=k*16+3+j by omega]at this
theorem zZ {S:ByteArray}{l:List UInt8}(h:S.data.toList=l):S=⟨l.toArray⟩:=by
 cases S with
 | mk d=>subst h;rfl
theorem za (g:Sg)(a b:Nat):(⟨(g.encL a b).toArray⟩:ByteArray).size=20+8*g.bl.length+g.s.length:=by
 show(g.encL a b).toArray.size=_;rw[List.size_toArray];exact g.wr_length _
theorem yO (W:World) (x:Rw) (hx:x.In) (a1:Option Addr) (len1 cap1:Nat) (zs:List Int) (h1:lV .i64 W a1 len1 cap1 zs) (a2:Option Addr) (len2 cap2:Nat) (xs:Nat->Dv) (h2:j9 W W.heap.size a2 len2 xs) (fr:Int) (hfr:(Lit.int .i64 fr).wf=true) (tv:Int) (htv:(Lit.int .i64 tv).wf=true) (gl:Gl W) :
  Calls Tryz.prog 14 #[.agg (jc x).toArray,.slice a1 len1 cap1,.slice a2 len2 cap2,fr,tv] W fun e W'=>e= .returned true/\Below W.heap.size W W':=by
 obtain⟨K,hK⟩:∃K:Nat,min (len1:Int) 100=(K:Int):=⟨min len1 100,by omega⟩;have ac:K<=len1:=by omega
 have bx:K<=cap1:=Nat.le_trans ac (qF h1).1;have cC:(K:Int)<=(cap1:Int):=by omega
 have hcm:=(qF h1).2;have a3:K<=1000:=by omega
 have b9:=hid hK;clear hK;have b0:=hid (FatAt.of_row h1 ac a3).2;have ad:=hid h1;clear h1;have HX:=hid hx;have HG:=hid gl;have HD:=hid h2;have HI:=hid (show aI fr/\aI tv from And.intro (bounds_i64 hfr) (bounds_i64 htv));clear h2 hfr htv;clear hx gl;have HR:=hid (RowB.new W 23 (jc x));have HB:=hid ((Below.refl W.heap.size W).alloc (Nat.le_refl _) (.cells (jc x).toArray 23))
 go_enter Tryz.func14,Tryz.ntmps14
 go_upto_region 1 with fail
 change Code.wp _ _ _ _ (W.alloc (.cells (jc x).toArray 23));obtain⟨W0,hW0⟩:∃W0,W0=W.heap.size:=⟨_,rfl⟩;rw[<-hW0]at HR|-;clear hW0;generalize W.alloc (.cells (jc x).toArray 23)=w1 at HR HB|-;go_wp2_with fail;refine(rn _ (HG.below (HB.mono HG.top))).mono ?_;rintro e w2⟨rfl,hb⟩;replace HR:=hid (HR.below hb);replace HB:=hid (HB.trans (hb.mono HB.size));clear hb
 go_upto_region 2 with fail
 refine bC (fun W':World=>RowB W0 23 (jc x) W') (HR.o) fun hZ=>?_;replace HR:=hid (HR.below (Below.refl _ _).drew);replace HB:=hid HB.drew;generalize w2.drew=w3 at HR HB hZ|-;have b1:=hid (show Calls Tryz.prog 16 #[.agg #[x.issA,x.issB,x.mss,x.roomA,x.roomB,x.keep],.slice a1 K cap1,(600:Int),(600:Int)] w3 (uV x (zs.take K) 600 600 w3)from by have:=kp x (zs.take K) a1 cap1 600 600 w3 HX.o (HG.below (HB.mono HG.top)) (ro ad.o ac a3 HB.o) (by decide) (by decide);rw[b0.o]at this;exact this);refine qP 0 (jc x) (fun _ h=>RowB.range h) Tryz.underlying23 (by kernel_rfl) ?_ (ha:=by((try simp only[Act.put,List.setIfInBounds_toArray,List.set_cons_zero,List.set_cons_succ,jc]);(try rfl)));refine aK 1 2 ?_;refine aO 3 ?_;refine aO 4 (v:=.int .i64 (K:Int)) ?_ (hy:=by intro w hSw;(try dsimp only at hSw);go_simp;(rw[b9.o]));refine aO 5 ?_;refine aX 6 fun Kq hKq=> ?_;go_simp;refine(b1.o).mono ?_;rintro e w4⟨t,rfl,hpa,hb⟩;replace HR:=hid (HR.below hb);have b2:=hid hpa;have ba:=hid HB.size;replace HB:=hid (HB.trans (hb.mono HB.size));clear hb hpa;go_simp;refine hKq.out _ _ (HR.o) ?_;clear hKq Kq hZ;refine fun hZ=>aT ?_;refine aB 7 8 9 10 ?_;refine aO 11 ?_;refine az ?_ _;clear hZ b1;obtain⟨K2,hK2⟩:∃K2,K2=min len2 30:=⟨_,rfl⟩;have hl2:len2<=maxLen:=HD.1;have bb:=hid (oH x (zs.take K) 600 600 (by rw[b0.o];exact a3) (by decide) (by decide));have HP:=hid (qD x);have ag:=hid (PrSt.start b2.o);go_wp2_with fail
 go_loopg [14] K2 (fun g iv wr=>∃(k:Nat) (tk:Ft) (p:Pr),iv=((k:Int):Y)/\g+k=K2/\PrSt w3.heap.size t w4 tk p wr/\Pr.Al (ji x) p (21*(k:Int)))
 case atStart=>exact⟨0,t,_,rfl,by omega,ag.o,bb.o⟩
 case round =>
  obtain⟨k,tk,p,rfl,cF,hst,hal⟩:=hrel;have HS:=hid hst;have HA:=hid hal;have ak:=hid (HB.trans (hst.fr.below HB.size (fun kk hkk=>Nat.le_trans ba.o (b2.lo kk hkk))));clear hst hal;by_cases hk:k<K2
  ·have hk2:(k:Int)<(len2:Int):=by omega
   have a6:(k:Int)<30:=by omega
   obtain⟨b,off,rfl,hblt,hcs⟩:=(HD.below ak.o).2 (by omega);obtain⟨⟨d0,d1,d2,d3⟩,hin⟩:=hcs k (by omega);clear hcs;have al:=vn w3.heap.size tk (ji x) p (21*(k:Int)) (xs k) wr HS.pa HA.o HP.o (by omega) (by omega) hin;rw[HS.eB]at al;go_wp2_with fail;refine al.mono ?_;rintro e w5⟨rfl,t5,k5⟩;have bc:=hid (HS.trans k5);clear al k5;have bd:=hid ((HA.doD HP.o (xs k) (by omega) (by omega)).2);clear d0 d1 d2 d3;go_wp2_with fail
   go_roundg (gk-1)
   case measure=>omega
   case rel=>exact⟨k+1,t5,_,by first | rfl | go_num | (have e:wrap64 ((k:Int)+1)=((k+1:Nat):Int):=(by unfold wrap64;omega);rw[e]),by omega,bc.o,by have h:=bd.o;rw[show 21*(k:Int)+21=21*((k+1:Nat):Int) by omega]at h;exact h⟩
  have hge:k=K2:=by omega
  by_cases hk2:(k:Int)<(len2:Int)
  focus
   have a6:¬(k:Int)<30:=by omega
   go_upto_region 9 with fail
   clear a6
  rotate_left 1
  focus
   go_upto_region 9 with fail
  all_goals
   clear hk2;obtain⟨wE,be⟩:∃wE,wE=wr:=⟨_,rfl⟩;subst be;obtain⟨M,hM,how⟩:=HS.pa.log;obtain⟨aL,a4,b3⟩:=how.val';have HV:=hid b3;have HOW:=hid how;have am:=HA.run.1;have hbg:M.length<=1000000000000:=by have h1:=am.llen;rw[<-hM,List.length_map]at h1;omega
   have bn:=hid (show ∀y∈M,y.1.s.Ok from fun y hy=>am.log y.1 (by rw[<-hM];exact List.mem_map_of_mem hy));clear hM how b3 am;have c16:wE.cell? ⟨t.B,16,none⟩=some (.slice aL M.length a4):=by have:=HS.cell 16 tk.vL rfl;rwa [HV.o]at this
   have bo:=block_lt_of_cell c16;go_wp2_with fail
   go_loopg [15] M.length (fun g iv wr=>∃(j:Nat),iv=((j:Int):Y)/\g+j=M.length/\Below wE.heap.size wE wr)
   case atStart=>exact⟨0,rfl,by omega,Below.refl _ _⟩
   case round =>
    obtain⟨j,rfl,cL,aa⟩:=hrel;have HQ:=hid aa;have HW:=hid (HOW.below aa);have c17:wr.cell? ⟨t.B,16,none⟩=some (.slice aL M.length a4):=(World.cell?_of_block (aa.block t.B bo)).trans c16;clear aa;by_cases hj:j<M.length
    ·have bu:(j:Int)<(M.length:Int):=by omega
     obtain⟨g,cg,b4,hgl,hcs⟩:=HW.at hj;obtain⟨rfl,rfl⟩:aL=some ⟨g,0,none⟩/\a4=cg:=by have h1:=HV.o;rw[b4]at h1;cases h1;exact⟨rfl,rfl⟩
     have aF:=hid (HW.2 M[j] (List.getElem_mem hj));have a5:=hid (bn.o M[j] (List.getElem_mem hj));obtain⟨x1,hx1⟩:∃x1,x1=M[j]:=⟨_,rfl⟩;rw[<-hx1]at hcs aF a5;clear hx1 b4;have b5:=hid (zt hcs);clear hcs
     go_upto_region 13 with(refine wpList_load_mid rfl 43 _ rfl g (j*16+3) rfl (aW (x1.1.s,x1.2.1,x1.2.2)) _ b5.o Tryz.underlying43 rfl jq ?_;(try dsimp only[aW]))
     clear b5;change Code.wp _ _ _ _ (wr.alloc (.cells (aW (x1.1.s,x1.2.1,x1.2.2)).toArray 43));have HR:=hid (RowB.new wr 43 (aW (x1.1.s,x1.2.1,x1.2.2)));have ab:=(Below.refl wr.heap.size wr).alloc (Nat.le_refl _) (.cells (aW (x1.1.s,x1.2.1,x1.2.2)).toArray 43);replace aF:=hid (aF.keep ab.size (aE.below ab));have HZ:=hid (HQ.trans (ab.mono HQ.size));clear ab;generalize hF:wr.heap.size=F at HR|-;generalize wr.alloc (.cells (aW (x1.1.s,x1.2.1,x1.2.2)).toArray 43)=w6 at HR aF HZ|-;clear hF;refine bC (fun W:World=>RowB F 43 (aW (x1.1.s,x1.2.1,x1.2.2)) W) (HR.o) fun hZ=>?_;replace HR:=hid (HR.below (Below.refl _ _).drew);replace aF:=hid (aF.keep (Nat.le_refl _) (.refl _):au w6.drew x1.2.1 x1.1.s.bl);replace HZ:=hid HZ.drew;generalize w6.drew=w7 at HR aF HZ hZ|-;have hp1:=aj fr 4294967294 (by decide);have hp2:=aj tv 4294967294 (by decide);generalize hq1:aR fr 4294967294=q1 at hp1;generalize hq2:aR tv 4294967294=q2 at hp2;have b6:=hid hq1;have b8:=hid hq2;clear hq1 hq2;obtain⟨p1,p2⟩:=hp1;obtain⟨p3,p4⟩:=hp2;refine aK 0 3 ?_;refine qP 6 (aW (x1.1.s,x1.2.1,x1.2.2)) (fun _ h=>RowB.range h) Tryz.underlying43 jq ?_ (ha:=by((try simp only[Act.put,List.setIfInBounds_toArray,List.set_cons_zero,List.set_cons_succ,aW]);(try rfl)));refine aX 1 fun Kq hKq=> ?_;go_simp;refine(bB fr 4294967294 _ HI.1 (by decide) (by decide)).mono ?_;rintro e wx⟨rfl,rfl⟩;rw[b6.o];go_simp;refine hKq.out _ _ (HR.o) ?_;clear hKq Kq hZ;refine fun hZ=>aT ?_;refine aO 2 (v:=.int .i64 (1+q1)) ?_ (hy:=by intro _ _;go_simp;(first | rfl | rw[IntWalk.i64_in _ (by omega)] | (congr 2;omega)));refine aX 4 fun Kq hKq=> ?_;go_simp;refine(bB tv 4294967294 _ HI.2 (by decide) (by decide)).mono ?_;rintro e wx⟨rfl,rfl⟩;rw[b8.o];go_simp;refine hKq.out _ _ (HR.o) ?_;clear hKq Kq hZ;refine fun hZ=>aT ?_;refine aO 5 (v:=.int .i64 (1+q2)) ?_ (hy:=by intro _ _;go_simp;(first | rfl | rw[IntWalk.i64_in _ (by omega)] | (congr 2;omega)));refine aX 7 fun Kq hKq=> ?_;go_simp;refine(yg (1+q1) (1+q2) x1.1.s w7.heap.size x1.2.1 x1.2.2 ⟨x1.1.s.s.toArray⟩ w7 ⟨by omega,by omega⟩ ⟨by omega,by omega⟩ a5.o rfl aF.1 (Nat.le_refl _)).mono ?_;rintro e w8⟨rfl,hb⟩;replace HR:=hid (HR.below hb);replace aF:=hid (aF.keep hb.size (aE.below hb));replace HZ:=hid (HZ.trans (hb.mono HZ.size));clear hb;generalize hE:(⟨(x1.1.s.encL (1+q1).toNat (1+q2).toNat).toArray⟩:ByteArray)=E at *;have HE:=hid hE;clear hE;go_simp;refine hKq.out _ _ (HR.o) ?_;clear hKq Kq hZ;refine fun hZ=>aT ?_;refine aB 8 9 10 11 ?_;refine aO 12 ?_;refine az ?_ _;clear hZ;go_wp2_with fail;refine(bB fr 4294967294 _ HI.1 (by decide) (by decide)).mono ?_;rintro e wx⟨rfl,rfl⟩;rw[b6.o];go_wp2_with fail;refine(bB tv 4294967294 _ HI.2 (by decide) (by decide)).mono ?_;rintro e wx⟨rfl,rfl⟩;rw[b8.o];go_wp2_with fail;refine(yz (1+q1) (1+q2) x1.1.s E w8 ⟨by omega,by omega⟩ ⟨by omega,by omega⟩ a5.o HE.symm).mono ?_;rintro e w9⟨a9,cap9,S9,rfl,hS9,hown,hb⟩;obtain rfl:=zZ hS9;replace HR:=hid (HR.below hb);replace aF:=hid (aF.keep hb.size (aE.below hb));have an:=hid (HZ.trans (hb.mono HZ.size));obtain⟨a',cap',bv,hsp,-⟩:=hown.at (by have:=a5.blen;omega)
     cases bv
     have a7:=hid hsp;clear hS9 hown hb hsp HZ
     go_upto_region 15 with fail
     change Code.wp _ _ _ _ (w9.alloc (.cells (aW (x1.1.s,a9,cap9)).toArray 43));have av:=hid (RowB.new w9 43 (aW (x1.1.s,a9,cap9)));have a0:=(Below.refl w9.heap.size w9).alloc (Nat.le_refl _) (.cells (aW (x1.1.s,a9,cap9)).toArray 43);replace HR:=hid (HR.below a0);replace aF:=hid (aF.keep a0.size (aE.below a0));have HZ:=hid (an.trans (a0.mono an.size));replace a7:=hid (a7.below a0);have hsz:=a0.size;clear an a0;generalize w9.heap.size=F9 at av a7 hsz|-;generalize w9.alloc (.cells (aW (x1.1.s,a9,cap9)).toArray 43)=w10 at HR av aF HZ a7 hsz|-
     go_wp2_with (first | (refine wpList_load_mid rfl 43 _ rfl F9 0 rfl (aW (x1.1.s,a9,cap9)) _ av.range Tryz.underlying43 rfl jq ?_;(try dsimp only[aW])) | (refine wpList_load_mid rfl 43 _ rfl F 0 rfl (aW (x1.1.s,x1.2.1,x1.2.2)) _ HR.range Tryz.underlying43 rfl jq ?_;(try dsimp only[aW])))
     refine(yu w10 w10.heap.size x1.1.s a9 x1.2.1 cap9 x1.2.2 ⟨x1.1.s.s.toArray⟩ (a7.mono hsz) aF.1 (Nat.le_refl _)).mono ?_;rintro e w11⟨rfl,hb⟩;replace HR:=hid (HR.below hb);have ax:=hid (HZ.trans (hb.mono HZ.size));clear hb HZ;have cM:=HR.cell 11 (.slice x1.2.1 x1.1.s.bl.length x1.2.2) rfl;have cS:=HR.cell 12 (.string ⟨x1.1.s.s.toArray⟩) rfl;have cT:E.size=20+8*x1.1.s.bl.length+x1.1.s.s.length:=by rw[<-HE.o];exact za _ _ _
     have hbl:x1.1.s.bl.length<=3:=a5.blen;have hsl:(⟨x1.1.s.s.toArray⟩:ByteArray).size=x1.1.s.s.length:=by show x1.1.s.s.toArray.size=_;simp
     have hsm:=a5.slen;go_wp2_with fail
     go_roundg (gk-1)
     case measure=>omega
     case rel=>exact⟨j+1,by first | rfl | go_num | (have e:wrap64 ((j:Int)+1)=((j+1:Nat):Int):=(by unfold wrap64;omega);rw[e]),by omega,ax.o⟩
    ·have bu:¬(j:Int)<(M.length:Int):=by omega
     go_wp2;go_ret;exact⟨rfl,ak.trans (HQ.mono ak.size)⟩
end Go.Proofs.YtclkcmidhhfdmaaGreatDoor
