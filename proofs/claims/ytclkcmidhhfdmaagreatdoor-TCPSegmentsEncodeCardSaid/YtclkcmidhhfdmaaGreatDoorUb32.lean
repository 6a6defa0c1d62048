import Derived.Test.YtclkcmidhhfdmaaGreatDoorUb28
import Derived.Test.YtclkcmidhhfdmaaGreatDoorUb31
namespace Go.Proofs.YtclkcmidhhfdmaaGreatDoor
open Lib (hid)
section
set_option maxHeartbeats 8000000
set_option maxRecDepth 100000
open Go.RowKit Go.Shelf
def cv (now:Int)(M:List bG):List bG:=M.filter fun x=>Pr.readyB now x.1
def eI (now:Int)(M:List bG):List bG:=M.filter fun x=> !Pr.readyB now x.1
theorem fJ {α:Type}(M:List α)(k:Nat)(h:k<M.length):M.take (k+1)=M.take k++[M[k]]:=by rw[List.take_succ_eq_append_getElem h]
theorem rW (now:Int)(M:List bG)(k:Nat)(h:k<M.length):cv now (M.take (k+1))=if Pr.readyB now M[k].1=true then cv now (M.take k)++[M[k]]else cv now (M.take k):=by
 unfold cv;rw[fJ M k h,List.filter_append];by_cases hb:Pr.readyB now M[k].1=true <;> simp[hb]
theorem pP (now:Int)(M:List bG)(k:Nat)(h:k<M.length):eI now (M.take (k+1))=if Pr.readyB now M[k].1=true then eI now (M.take k)else eI now (M.take k)++[M[k]]:=by
 unfold eI;rw[fJ M k h,List.filter_append];by_cases hb:Pr.readyB now M[k].1=true <;> simp[hb]
def ep (l:List bG)(d:Bool):Bool:=l.any fun f=>f.1.dst==d
theorem gY (l:List bG)(x:bG)(d:Bool):ep (l++[x]) d=(ep l d||x.1.dst==d):=by unfold ep;rw[List.any_append];simp
theorem kf (b:Bool):(b=false/\bI b=0)\/(b=true/\bI b=1):=by cases b <;> simp[bI]
def eJ (now:Int)(D L:List bG):List bG:=L.filter fun x=>Pr.lateB now (D.map (·.1)) x.1
def fK (now:Int)(D L:List bG):List bG:=L.filter fun x=> !Pr.lateB now (D.map (·.1)) x.1
theorem pQ (now:Int)(D M:List bG)(k:Nat)(h:k<M.length):eJ now D (M.take (k+1))=if Pr.lateB now (D.map (·.1)) M[k].1=true then eJ now D (M.take k)++[M[k]]else eJ now D (M.take k):=by
 unfold eJ;rw[fJ M k h,List.filter_append];by_cases hb:Pr.lateB now (D.map (·.1)) M[k].1=true <;> simp[hb]
theorem pR (now:Int)(D M:List bG)(k:Nat)(h:k<M.length):fK now D (M.take (k+1))=if Pr.lateB now (D.map (·.1)) M[k].1=true then fK now D (M.take k)else fK now D (M.take k)++[M[k]]:=by
 unfold fK;rw[fJ M k h,List.filter_append];by_cases hb:Pr.lateB now (D.map (·.1)) M[k].1=true <;> simp[hb]
theorem wj {p:Pr}{M D0 L DD:List bG}(h:M.map (·.1)=p.wire)(h1:D0=cv p.now M)(h2:L=eI p.now M)(h3:DD=D0++eJ p.now D0 L):DD.map (·.1)=p.due/\(fK p.now D0 L).map (·.1)=p.rest:=by
 have e1:D0.map (·.1)=Pr.due1 p.now p.wire:=by rw[h1,<-h];unfold cv Pr.due1;rw[List.filter_map];rfl
 have e2:L.map (·.1)=Pr.left1 p.now p.wire:=by rw[h2,<-h];unfold eI Pr.left1;rw[List.filter_map];rfl
 constructor
 ·rw[h3,List.map_append,e1];unfold Pr.due eJ;rw[e1,<-e2,List.filter_map];rfl
 unfold Pr.rest fK;rw[e1,<-e2,List.filter_map];rfl
theorem uH {w:World}{g k:Nat}{x:bG}(h:∀j,j<16->∀u,(ct x)[j]? =some u->w.cell? ⟨g,k*16+j,none⟩=some u):w.rangeAt g (k*16+3) (aW (x.1.s,x.2.1,x.2.2)):=fun j v hj=>by
 have h1:j<13:=by have:=(List.getElem?_eq_some_iff.1 hj).1;exact this
 have h2:(ct x)[3+j]? =some v:=by rw[Nat.add_comm];exact hj
 rw[Nat.add_assoc];exact h (3+j) (by omega) v h2
def Pr.Ml (p:Pr):Prop:=p.many=p.log.length
theorem Pr.Ml.put {p:Pr}(h:p.Ml)(i:Bool)(l:List Sg):(p.put i l).Ml:=by
 unfold Pr.Ml at h|-;rw[oA,(ix i l p).1,h]
theorem Pr.Ml.setSd {p:Pr}(h:p.Ml)(i:Bool)(d:Sd):(p.setSd i d).Ml:=by cases i <;> exact h
theorem Pr.Ml.recv1 {p:Pr}(h:p.Ml)(f:Fl):(p.recv1 f).Ml:=Pr.Ml.put (h.setSd _ _) _ _
theorem Pr.Ml.fold:∀(l:List Fl) {p:Pr},p.Ml->(l.foldl Pr.recv1 p).Ml:=by
 intro l
 induction l with
 | nil=>exact fun h=>h
 | cons f l ih=>exact fun h=>ih (h.recv1 f)
theorem rX (DD:List bG)(k:Nat)(h:k<DD.length)(q:Pr):((DD.take (k+1)).map (·.1)).foldl Pr.recv1 q=(((DD.take k).map (·.1)).foldl Pr.recv1 q).recv1 DD[k].1:=by
 rw[fJ DD k h,List.map_append,List.foldl_append];rfl
theorem vX {p:Pr}{q r:Int}(h:Pr.Fit p q r)(hm:p.Ml){f:Fl}(hf:f.s.Ok)(hq:q<=400000000)(hr:r<=101000000000) :
  let d:=(p.sd f.dst).c.receive p.now f.s
  (p.setC f.dst d.1).log.length+d.2.length<=500000000000/\(p.setC f.dst d.1).wire.length+2*d.2.length<=500000000000/\(p.setC f.dst d.1).many+d.2.length<=1000000000000:=by
 intro d;have h1:=(Pr.recv1_fit h hf).llen;have h2:(p.recv1 f).log.length=(p.setC f.dst d.1).log.length+d.2.length:=(ix f.dst d.2 _).1;have h3:=h.wlen;have h4:(p.setC f.dst d.1).wire=p.wire:=by cases f.dst <;> rfl
 have h5:(p.setC f.dst d.1).many=p.many:=by cases f.dst <;> rfl
 have h6:(p.setC f.dst d.1).log=p.log:=by cases f.dst <;> rfl
 have h7:p.many=p.log.length:=hm;rw[h6]at h2|-;rw[h4,h5];omega
theorem pz (D:List bG)(d:Bool):ep D d=Pr.metB (D.map (·.1)) d:=by unfold ep Pr.metB;rw[List.any_map];rfl
theorem m8 (N:Nat) (t:Ft) (p:Pr) (w:World) (q r:Int) (h:PrAt N t p w) (hk:Pr.Fit p q r) (hq:q<=100000000) (hr:r<=100000000000) (hm:p.many=p.log.length) :
  Calls Tryz.prog 77 #[t.B] w (jI N t w p.deliver):=by
 have d9:=hid h;have HK:=hid hk;have HM:=hid hm;have e8:=hid hk.due;have be:=hk.now;have e9:=hk.wlen;obtain⟨al,am⟩:=be;obtain⟨M,hM,cl⟩:=h.wire;have da:=hid hM;have ec:=hid cl;have eg:M.length=p.wire.length:=by rw[<-hM,List.length_map]
 have ei:(M.length:Int)<=100000000:=by omega
 clear eg e9;obtain⟨a,cap,hv⟩:=cl.val';have HV:=hid hv;have hbg:=h.big;have hlt:=h.lt;obtain⟨R,hR⟩:∃R,R=p.deliver:=⟨_,rfl⟩;rw[<-hR];have HR:=hid hR;clear hR hM cl hv hk hm h
 go_enter Tryz.func77,Tryz.ntmps77
 have c12:w.cell? ⟨t.B,12,none⟩=some (.slice a M.length cap):=by have:=d9.cell 12 t.vW rfl;rwa [HV.o]at this
 go_wp2_with fail;obtain⟨mb,hmb⟩:∃mb,mb=w.heap.size:=⟨_,rfl⟩;have dc:=hid (show Dl N t w t p [] [] (.slice none 0 0) (.slice none 0 0) mb false false (w.alloc (.cells #[false,false] 149))from by subst hmb;exact Dl.start d9.o);rw[<-hmb];clear hmb c12
 go_loopg [2,3,5] M.length (fun g v2 v3 iv wr=>∃(k:Nat),iv=((k:Int):Y)/\g+k=M.length/\Dl N t w t p (cv p.now (M.take k)) (eI p.now (M.take k)) v2 v3 mb (ep (cv p.now (M.take k)) false) (ep (cv p.now (M.take k)) true) wr/\bM wr N t.vW M)
 case atStart=>exact⟨0,rfl,by omega,dc.o,ec.below ((Below.refl _ w).alloc (Nat.le_refl _) _)⟩
 case round =>
  obtain⟨k,rfl,cn,hst,how⟩:=hrel;have HS:=hid hst;have HW:=hid how;clear hst how dc;obtain⟨a2,e2,hv2⟩:=HS.d.val';obtain⟨a3,e3,hv3⟩:=HS.l.val';subst hv2 hv3;have c12:wr.cell? ⟨t.B,12,none⟩=some (.slice a M.length cap):=by have:=HS.st.cell 12 t.vW rfl;rwa [HV.o]at this
  by_cases hk:k<M.length
  ·have dk:(k:Int)<(M.length:Int):=by omega
   have b4:=hid (rW p.now M k hk);have b5:=hid (pP p.now M k hk);obtain⟨g,cg,b8,hgl,hcs⟩:=HW.at hk;obtain⟨rfl,rfl⟩:a=some ⟨g,0,none⟩/\cap=cg:=by have h1:=HV.o;rw[b8]at h1;cases h1;exact⟨rfl,rfl⟩
   have aF:=hid (HW.2 M[k] (List.getElem_mem hk));obtain⟨x,hx⟩:∃x,x=M[k]:=⟨_,rfl⟩;rw[<-hx]at hcs aF b4 b5;clear hx b8;have b9:=hid (oB hcs);clear hcs
   go_wp2_with (refine wpList_load_mid rfl 46 _ rfl g (k*16) rfl (ct x) _ b9.o Tryz.underlying46 rfl ci ?_;(try dsimp only[ct,aW]))
   have bn:(cv p.now (M.take k)).length<=100000000:=Nat.le_trans (List.length_filter_le _ _) (by rw[List.length_take];omega);have cs:(eI p.now (M.take k)).length<=100000000:=Nat.le_trans (List.length_filter_le _ _) (by rw[List.length_take];omega);have dl:=hid (fun kk (e:_=some kk)=>Nat.ne_of_lt (HS.l.lt kk e).2);clear b9;change Code.wp _ _ _ _ (wr.alloc (.cells (ct x).toArray 46));have ax:=(Below.refl wr.heap.size wr).alloc (Nat.le_refl _) (.cells (ct x).toArray 46);have HF:=hid (aN.new wr x);have el:=hid (fun kk (e:t.vW.ownBlock=some kk)=>Nat.ne_of_lt (HW.lt kk e).2);have cL:=hid (fun kk (e:_=some kk)=>Nat.ne_of_lt (HS.d.lt kk e).2);replace HS:=hid (HS.bel ax);replace HW:=hid (HW.below ax);replace aF:=hid (aF.keep ax.size (aE.below ax));clear ax;generalize hF:wr.heap.size=F at HF cL dl el|-;generalize wr.alloc (.cells (ct x).toArray 46)=w1 at *;clear hF
   go_upto_region 7 with fail
   go_cut [39]from 28 to 38 (fun v39 wx=>v39=(Pr.readyB p.now x.1:Y)/\Dl N t w t p (cv p.now (M.take k)) (eI p.now (M.take k)) (.slice a2 (cv p.now (M.take k)).length e2) (.slice a3 (eI p.now (M.take k)).length e3) mb (ep (cv p.now (M.take k)) false) (ep (cv p.now (M.take k)) true) wx/\bM wx N t.vW M/\aN F x wx/\au wx x.2.1 x.1.s.bl)
   case first =>
    by_cases hh:x.1.held=true
    ·have a5:Pr.readyB p.now x.1=false:=by unfold Pr.readyB;rw[hh];rfl
     refine bC (fun W:World=>W.cell? ⟨F,2,none⟩=some (true:Y)) (HF.cell 2 _ (by show some (Value.bool x.1.held)=_;rw[hh])) fun hZ=>?_;replace HS:=hid (HS.bel (Below.refl _ _).drew);replace HF:=hid (show aN F x w1.drew from HF.o);replace HW:=hid (show bM w1.drew N t.vW M from HW.below (Below.refl _ _).drew);replace aF:=hid (aF.keep (Below.refl w1.heap.size w1).drew.size (aE.below (Below.refl w1.heap.size w1).drew));generalize w1.drew=w2 at *;refine aB 0 1 2 3 ?_;refine aV 4 ?_;refine aV 5 ?_;refine aV 6 ?_;refine aV 7 ?_;refine aV 8 ?_;refine aV 9 ?_;refine aV 10 ?_;refine aO 11 ?_;refine az ?_ _;clear hZ;clear hh;go_wp2_with fail
     go_meet
     case rel=>exact⟨by rw[a5],HS.o,HW.o,HF.o,aF.o⟩
    replace hh:x.1.held=false:=by simpa using hh
    by_cases hdu:x.1.due<=p.now
    ·have a5:Pr.readyB p.now x.1=true:=by unfold Pr.readyB;rw[hh];show decide (x.1.due<=p.now)=true;simp[hdu]
     refine bC (fun W:World=>W.cell? ⟨F,2,none⟩=some (false:Y)/\W.cell? ⟨F,1,none⟩=some (.int .i64 x.1.due)/\W.cell? ⟨t.B,13,none⟩=some (p.now:Y)) (⟨HF.cell 2 _ (by show some (Value.bool x.1.held)=_;rw[hh]),HF.cell 1 _ rfl,HS.st.cell 13 p.now rfl⟩) fun hZ=>?_;replace HS:=hid (HS.bel (Below.refl _ _).drew);replace HF:=hid (show aN F x w1.drew from HF.o);replace HW:=hid (show bM w1.drew N t.vW M from HW.below (Below.refl _ _).drew);replace aF:=hid (aF.keep (Below.refl w1.heap.size w1).drew.size (aE.below (Below.refl w1.heap.size w1).drew));generalize w1.drew=w2 at *;refine aB 0 1 2 3 ?_;refine aB 4 5 6 7 ?_;refine aK 8 9 ?_;refine aO 10 (v:=.bool true) ?_ (hy:=by intro w hSw;(obtain⟨z0,z1,z2⟩:=hSw);go_simp;(try first | omega | (rw[decide_eq_true_iff];omega)));refine aO 11 ?_;refine az ?_ _;clear hZ;clear hh;go_wp2_with fail
     go_meet
     case rel=>exact⟨by rw[a5],HS.o,HW.o,HF.o,aF.o⟩
    have a5:Pr.readyB p.now x.1=false:=by unfold Pr.readyB;rw[hh];show decide (x.1.due<=p.now)=false;simp[hdu]
    refine bC (fun W:World=>W.cell? ⟨F,2,none⟩=some (false:Y)/\W.cell? ⟨F,1,none⟩=some (.int .i64 x.1.due)/\W.cell? ⟨t.B,13,none⟩=some (p.now:Y)) (⟨HF.cell 2 _ (by show some (Value.bool x.1.held)=_;rw[hh]),HF.cell 1 _ rfl,HS.st.cell 13 p.now rfl⟩) fun hZ=>?_;replace HS:=hid (HS.bel (Below.refl _ _).drew);replace HF:=hid (show aN F x w1.drew from HF.o);replace HW:=hid (show bM w1.drew N t.vW M from HW.below (Below.refl _ _).drew);replace aF:=hid (aF.keep (Below.refl w1.heap.size w1).drew.size (aE.below (Below.refl w1.heap.size w1).drew));generalize w1.drew=w2 at *;refine aB 0 1 2 3 ?_;refine aB 4 5 6 7 ?_;refine aK 8 9 ?_;refine aO 10 (v:=.bool false) ?_ (hy:=by intro w hSw;(obtain⟨z0,z1,z2⟩:=hSw);go_simp;(try first | omega | (rw[decide_eq_false_iff_not];omega)));refine aO 11 ?_;refine az ?_ _;clear hZ;clear hh;go_wp2_with fail
    go_meet
    case rel=>exact⟨by rw[a5],HS.o,HW.o,HF.o,aF.o⟩
   case rest =>
    obtain⟨rfl,h1,h2,h3,h4⟩:=hcut;clear HS HW HF aF;have HS:=hid h1;have HW:=hid h2;have HF:=hid h3;have aF:=hid h4;clear h1 h2 h3 h4;obtain⟨b,a5⟩:∃b,Pr.readyB p.now x.1=b:=⟨_,rfl⟩;rw[a5]at b4 b5|-;clear a5
    cases b
    ·have b0:=b4.o;have b1:=b5.o;rw[if_neg Bool.false_ne_true]at b0 b1;have bc:=hid (aN.range HF.o);have aa:=(Below.refl wc.heap.size wc).alloc (Nat.le_refl _) (.cells (ct x).toArray 46);have a6:=hid (pK (heap_alloc_new wc (.cells (ct x).toArray 46)));replace HS:=hid (HS.bel aa);have an:=hid (show ∀u∈([x]:List bG),au (wc.alloc (.cells (ct x).toArray 46)) u.2.1 u.1.s.bl from fun u hu=>by rw[List.mem_singleton.1 hu];exact aF.keep aa.size (aE.below aa));have av:=hid (HF.below aa);have bo:=hid (HW.below aa);have hll:(eI p.now (M.take k)).length+([x]:List bG).length<=1000000000000:=by have:=cs;show _+1<=_;omega
     go_wp2_with (first | (at_builtin;refine dC _ rfl _ _ rfl N _ (eI p.now (M.take k)) rfl HS.l wc.heap.size 0 1 [x] rfl a6.o an.o hll HS.st.pa.big ?_) | (refine wpList_load_mid rfl 46 _ rfl F 0 rfl (ct x) _ bc.o Tryz.underlying46 rfl ci ?_;(try dsimp only[ct,aW])))
     intro v4 w4 ho hg hb;clear hll a6 an aa bc;replace HF:=hid (show aN F x w4 from(hg.block F av.lt (fun e=>dl.o F e.symm rfl)).trans av.o);replace HW:=hid (bo.keep hg.size (HS.l.spanKept hg) (fun kk e=>hg.block kk (bo.lt kk e).2 (fun e2=>(HS.nl kk e2.symm).1 (.inr (.inr (.inr (.inl e)))))));clear bo;have bd:=hid (HS.app3 (x:=x) (by first | exact ho | (rw[List.append_assoc];exact ho)) hg (hb.imp id fun⟨kk,h1,h2⟩=>⟨kk,h1,by show(wc.heap.push _).size<=kk;rw[Array.size_push];exact h2⟩));clear av ho hg hb HS;have HS:=bd;clear bd;go_wp2_with fail
     go_roundg (gk-1)
     case measure=>omega
     case rel=>exact⟨k+1,by first | rfl | go_num | (have e:wrap64 ((k:Int)+1)=((k+1:Nat):Int):=(by unfold wrap64;omega);rw[e]),by omega,by rw[b0,b1];exact HS.o,HW.o⟩
    have b0:=b4.o;have b1:=b5.o;rw[if_pos rfl]at b0 b1;have bc:=hid (aN.range HF.o);have aa:=(Below.refl wc.heap.size wc).alloc (Nat.le_refl _) (.cells (ct x).toArray 46);have a6:=hid (pK (heap_alloc_new wc (.cells (ct x).toArray 46)));replace HS:=hid (HS.bel aa);have an:=hid (show ∀u∈([x]:List bG),au (wc.alloc (.cells (ct x).toArray 46)) u.2.1 u.1.s.bl from fun u hu=>by rw[List.mem_singleton.1 hu];exact aF.keep aa.size (aE.below aa));have av:=hid (HF.below aa);have bo:=hid (HW.below aa);have hll:(cv p.now (M.take k)).length+([x]:List bG).length<=1000000000000:=by have:=bn;show _+1<=_;omega
    go_wp2_with (first | (at_builtin;refine dC _ rfl _ _ rfl N _ (cv p.now (M.take k)) rfl HS.d wc.heap.size 0 1 [x] rfl a6.o an.o hll HS.st.pa.big ?_) | (refine wpList_load_mid rfl 46 _ rfl F 0 rfl (ct x) _ bc.o Tryz.underlying46 rfl ci ?_;(try dsimp only[ct,aW])))
    intro v4 w4 ho hg hb;clear hll a6 an aa bc;replace HF:=hid (show aN F x w4 from(hg.block F av.lt (fun e=>cL.o F e.symm rfl)).trans av.o);replace HW:=hid (bo.keep hg.size (HS.d.spanKept hg) (fun kk e=>hg.block kk (bo.lt kk e).2 (fun e2=>(HS.nd kk e2.symm).1 (.inr (.inr (.inr (.inl e)))))));clear bo;have bd:=hid (HS.app2 (x:=x) (by first | exact ho | (rw[List.append_assoc];exact ho)) hg (hb.imp id fun⟨kk,h1,h2⟩=>⟨kk,h1,by show(wc.heap.push _).size<=kk;rw[Array.size_push];exact h2⟩));clear av ho hg hb HS;have HS:=bd;clear bd;obtain⟨a0,a7⟩ | ⟨a0,a7⟩:=kf x.1.dst
    focus
     have k0:w4.cell? F=some ((0:Int):Y):=HF.cell 0 _ (by show some (Value.int .i64 (bI x.1.dst))=_;rw[a7]);have m0:=HS.cellM 0 _ rfl;have f0:=HS.freeM 0;have ea:ep (cv p.now (M.take k)++[x]) false=true:=by rw[gY,a0];simp
     have eb:ep (cv p.now (M.take k)++[x]) true=ep (cv p.now (M.take k)) true:=by rw[gY,a0];simp
     have dn:=hid (HS.flag 0 true (ep (cv p.now (M.take k)++[x]) false) (ep (cv p.now (M.take k)++[x]) true) (by rw[ea,eb];rfl));have cM:Chg mb w4 (w4.setCell mb true):=(Chg.refl _ _).setCell 0 true
    rotate_left 1
    focus
     have k0:w4.cell? F=some ((1:Int):Y):=HF.cell 0 _ (by show some (Value.int .i64 (bI x.1.dst))=_;rw[a7]);have m0:=HS.cellM 1 _ rfl;have f0:=HS.freeM 1;have ea:ep (cv p.now (M.take k)++[x]) true=true:=by rw[gY,a0];simp
     have eb:ep (cv p.now (M.take k)++[x]) false=ep (cv p.now (M.take k)) false:=by rw[gY,a0];simp
     have dn:=hid (HS.flag 1 true (ep (cv p.now (M.take k)++[x]) false) (ep (cv p.now (M.take k)++[x]) true) (by rw[ea,eb];rfl));have cM:Chg mb w4 (w4.setCell ⟨mb,1,none⟩ true):=(Chg.refl _ _).setCell 1 true
    all_goals
     have em:=hid (HW.keep cM.size (.chg cM HS.mty (by decide)) (fun kk e=>cM.block kk (HW.lt kk e).2 ((HW.ty kk e).ne HS.mty (by decide))));clear cM ea eb;go_wp2_with fail
     go_roundg (gk-1)
     case measure=>omega
     case rel=>exact⟨k+1,by first | rfl | go_num | (have e:wrap64 ((k:Int)+1)=((k+1:Nat):Int):=(by unfold wrap64;omega);rw[e]),by omega,by rw[b0,b1];exact dn.o,em.o⟩
  have hge:k=M.length:=by omega
  subst hge;rw[List.take_length]at HS|-;have en:=HS.st.free 12;have b2:=HS.pair (HS.st.pa.setW (.slice none 0 0) [] (World.grownBy.refl _ _) (bM.nil _ _) (fun _ h=>nomatch h));rw[HS.st.eB]at b2;replace b2:=hid b2;have cX:(eI p.now M).length<=100000000:=Nat.le_trans (List.length_filter_le _ _) (by omega);have er:(cv p.now M).length<=100000000:=Nat.le_trans (List.length_filter_le _ _) (by omega);have cY:=hid (pz (cv p.now M) false);have c0:=hid (pz (cv p.now M) true);go_wp2_with fail;clear en HS HW c12;generalize wr.setCell ⟨t.B,12,none⟩ (.slice none 0 0)=w0 at b2|-;obtain⟨L,hL⟩:∃L,L=eI p.now M:=⟨_,rfl⟩;have HL:=hid hL;rw[<-hL]at b2 cX|-;clear hL;obtain⟨D0,hD0⟩:∃D0,D0=cv p.now M:=⟨_,rfl⟩;have dT:=hid hD0;rw[<-hD0]at b2 cY c0 er|-;clear hD0;obtain⟨ba,hba⟩:∃b,b=ep D0 false:=⟨_,rfl⟩;obtain⟨bb,hbb⟩:∃b,b=ep D0 true:=⟨_,rfl⟩;rw[<-hba]at b2 cY;rw[<-hbb]at b2 c0;clear hba hbb
  go_loopg [2,7] L.length (fun g v2 iv wr=>∃(k:Nat) (t1:Ft),iv=((k:Int):Y)/\g+k=L.length/\Dl N t w t1 { p with wire:=(fK p.now D0 (L.take k)).map (·.1) } (D0++eJ p.now D0 (L.take k)) L v2 (.slice a3 L.length e3) mb ba bb wr)
  case atStart=>exact⟨0,_,rfl,by omega,by show Dl _ _ _ _ _ (D0++[]) _ _ _ _ _ _ _;rw[List.append_nil];exact b2.o⟩
  case round =>
   obtain⟨k,t1,rfl,cn,hst⟩:=hrel;have HS:=hid hst;clear hst b2;obtain⟨a4,e4,hv4⟩:=HS.d.val';obtain⟨n2,hn2⟩:∃n2,n2=(D0++eJ p.now D0 (L.take k)).length:=⟨_,rfl⟩;rw[<-hn2]at hv4;subst hv4;clear hn2;by_cases hk:k<L.length
   ·have dk:(k:Int)<(L.length:Int):=by omega
    have b4:=hid (pQ p.now D0 L k hk);have b5:=hid (pR p.now D0 L k hk);obtain⟨g,cg,b8,hgl,hcs⟩:=HS.l.at hk;obtain⟨rfl,rfl⟩:a3=some ⟨g,0,none⟩/\e3=cg:=by cases b8;exact⟨rfl,rfl⟩
    have aF:=hid (HS.l.2 L[k] (List.getElem_mem hk));have ds:0<=L[k].1.due/\L[k].1.due<=1000100:=e8.o L[k].1 (by rw[<-da.o];exact List.mem_map_of_mem (List.mem_filter.1 (show L[k]∈eI p.now M from by rw[<-HL.o];exact List.getElem_mem hk)).1);obtain⟨x,hx⟩:∃x,x=L[k]:=⟨_,rfl⟩;rw[<-hx]at hcs aF b4 b5 ds;obtain⟨es,eu⟩:=ds;clear hx b8;have b9:=hid (oB hcs);clear hcs
    go_wp2_with (refine wpList_load_mid rfl 46 _ rfl g (k*16) rfl (ct x) _ b9.o Tryz.underlying46 rfl ci ?_;(try dsimp only[ct,aW]))
    have bn:(D0++eJ p.now D0 (L.take k)).length<=200000000:=by rw[List.length_append];have:(eJ p.now D0 (L.take k)).length<=(L.take k).length:=List.length_filter_le _ _;rw[List.length_take]at this;omega
    have ev:=hid (show((fK p.now D0 (L.take k)).map (·.1)).length<=100000000 from by rw[List.length_map];exact Nat.le_trans (List.length_filter_le _ _) (by rw[List.length_take];omega));have d0:=hid (fun(e:t1.D wr.heap.size)=>Nat.lt_irrefl _ (HS.st.pa.inD _ e).1);have c1:=HS.st.size;clear b9;change Code.wp _ _ _ _ (wr.alloc (.cells (ct x).toArray 46));have ax:=(Below.refl wr.heap.size wr).alloc (Nat.le_refl _) (.cells (ct x).toArray 46);have HF:=hid (aN.new wr x);have cL:=hid (fun kk (e:_=some kk)=>Nat.ne_of_lt (HS.d.lt kk e).2);replace HS:=hid (HS.bel ax);replace aF:=hid (aF.keep ax.size (aE.below ax));clear ax;generalize hF:wr.heap.size=F at HF cL d0 c1|-;generalize wr.alloc (.cells (ct x).toArray 46)=w1 at *;clear hF
    go_upto_region 16 with fail
    go_cut [81]from 64 to 80 (fun v81 wx=>v81=(Pr.lateB p.now (D0.map (·.1)) x.1:Y)/\Dl N t w t1 { p with wire:=(fK p.now D0 (L.take k)).map (·.1) } (D0++eJ p.now D0 (L.take k)) L (.slice a4 n2 e4) (.slice (some ⟨g,0,none⟩) L.length e3) mb ba bb wx/\aN F x wx/\au wx x.2.1 x.1.s.bl)
    case first =>
     by_cases hh:x.1.held=true
     ·obtain⟨a0,a7⟩ | ⟨a0,a7⟩:=kf x.1.dst
      focus
       by_cases hmb:ba=true
       ·have a5:Pr.lateB p.now (D0.map (·.1)) x.1=true:=by unfold Pr.lateB;rw[hh,a0,<-cY.o,hmb];rfl
        refine bC (fun W:World=>W.cell? ⟨F,2,none⟩=some (true:Y)/\W.cell? F=some ((0:Int):Y)/\W.cell? mb=some (true:Y)) (⟨HF.cell 2 _ (by show some (Value.bool x.1.held)=_;rw[hh]),HF.cell 0 _ (by show some (Value.int .i64 (bI x.1.dst))=_;rw[a7]),(by have:=HS.cellM 0 _ rfl;rwa [hmb]at this)⟩) fun hZ=>?_;replace HS:=hid (HS.bel (Below.refl _ _).drew);replace HF:=hid (show aN F x w1.drew from HF.o);replace aF:=hid (aF.keep (Below.refl w1.heap.size w1).drew.size (aE.below (Below.refl w1.heap.size w1).drew));generalize w1.drew=w2 at *;refine aB 0 1 2 3 ?_;refine aB 4 5 6 7 ?_;refine aV 8 ?_;refine aV 9 ?_;refine aV 10 ?_;refine aV 11 ?_;refine aV 12 ?_;refine aV 13 ?_;refine aV 14 ?_;refine aV 15 ?_;refine aK 16 17 ?_;refine az ?_ _;clear hZ;clear hh a7 a0 hmb;go_wp2_with fail
        go_meet
        case rel=>exact⟨by rw[a5],HS.o,HF.o,aF.o⟩
       replace hmb:ba=false:=by simpa using hmb
       by_cases hdu:x.1.due+30<=p.now
       ·have a5:Pr.lateB p.now (D0.map (·.1)) x.1=true:=by unfold Pr.lateB;rw[hh,a0,<-cY.o,hmb];show decide (x.1.due+30<=p.now)=true;simp[hdu]
        refine bC (fun W:World=>W.cell? ⟨F,2,none⟩=some (true:Y)/\W.cell? F=some ((0:Int):Y)/\W.cell? mb=some (false:Y)/\W.cell? ⟨F,1,none⟩=some (.int .i64 x.1.due)/\W.cell? ⟨t.B,13,none⟩=some (p.now:Y)) (⟨HF.cell 2 _ (by show some (Value.bool x.1.held)=_;rw[hh]),HF.cell 0 _ (by show some (Value.int .i64 (bI x.1.dst))=_;rw[a7]),(by have:=HS.cellM 0 _ rfl;rwa [hmb]at this),HF.cell 1 _ rfl,HS.st.cell 13 p.now rfl⟩) fun hZ=>?_;replace HS:=hid (HS.bel (Below.refl _ _).drew);replace HF:=hid (show aN F x w1.drew from HF.o);replace aF:=hid (aF.keep (Below.refl w1.heap.size w1).drew.size (aE.below (Below.refl w1.heap.size w1).drew));generalize w1.drew=w2 at *;refine aB 0 1 2 3 ?_;refine aB 4 5 6 7 ?_;refine aK 8 9 ?_;refine aO 10 (v:=.int .i64 (x.1.due+30)) ?_ (hy:=by intro w hSw;(obtain⟨z0,z1,z2,z3,z4⟩:=hSw);go_simp;(rw[IntWalk.i64_in (x.1.due+30) (by omega)]));refine aB 11 12 13 14 ?_;refine aO 15 (v:=.bool true) ?_ (hy:=by intro w hSw;(obtain⟨z0,z1,z2,z3,z4⟩:=hSw);go_simp;(try first | omega | (rw[decide_eq_true_iff];omega)));refine aK 16 17 ?_;refine az ?_ _;clear hZ;clear hh a7 a0 hmb hdu;go_wp2_with fail
        go_meet
        case rel=>exact⟨by rw[a5],HS.o,HF.o,aF.o⟩
       have a5:Pr.lateB p.now (D0.map (·.1)) x.1=false:=by unfold Pr.lateB;rw[hh,a0,<-cY.o,hmb];show decide (x.1.due+30<=p.now)=false;simp[hdu]
       refine bC (fun W:World=>W.cell? ⟨F,2,none⟩=some (true:Y)/\W.cell? F=some ((0:Int):Y)/\W.cell? mb=some (false:Y)/\W.cell? ⟨F,1,none⟩=some (.int .i64 x.1.due)/\W.cell? ⟨t.B,13,none⟩=some (p.now:Y)) (⟨HF.cell 2 _ (by show some (Value.bool x.1.held)=_;rw[hh]),HF.cell 0 _ (by show some (Value.int .i64 (bI x.1.dst))=_;rw[a7]),(by have:=HS.cellM 0 _ rfl;rwa [hmb]at this),HF.cell 1 _ rfl,HS.st.cell 13 p.now rfl⟩) fun hZ=>?_
      rotate_left 1
      focus
       by_cases hmb:bb=true
       ·have a5:Pr.lateB p.now (D0.map (·.1)) x.1=true:=by unfold Pr.lateB;rw[hh,a0,<-c0.o,hmb];rfl
        refine bC (fun W:World=>W.cell? ⟨F,2,none⟩=some (true:Y)/\W.cell? F=some ((1:Int):Y)/\W.cell? ⟨mb,1,none⟩=some (true:Y)) (⟨HF.cell 2 _ (by show some (Value.bool x.1.held)=_;rw[hh]),HF.cell 0 _ (by show some (Value.int .i64 (bI x.1.dst))=_;rw[a7]),(by have:=HS.cellM 1 _ rfl;rwa [hmb]at this)⟩) fun hZ=>?_;replace HS:=hid (HS.bel (Below.refl _ _).drew);replace HF:=hid (show aN F x w1.drew from HF.o);replace aF:=hid (aF.keep (Below.refl w1.heap.size w1).drew.size (aE.below (Below.refl w1.heap.size w1).drew));generalize w1.drew=w2 at *;refine aB 0 1 2 3 ?_;refine aB 4 5 6 7 ?_;refine aV 8 ?_;refine aV 9 ?_;refine aV 10 ?_;refine aV 11 ?_;refine aV 12 ?_;refine aV 13 ?_;refine aV 14 ?_;refine aV 15 ?_;refine aK 16 17 ?_;refine az ?_ _;clear hZ;clear hh a7 a0 hmb;go_wp2_with fail
        go_meet
        case rel=>exact⟨by rw[a5],HS.o,HF.o,aF.o⟩
       replace hmb:bb=false:=by simpa using hmb
       by_cases hdu:x.1.due+30<=p.now
       ·have a5:Pr.lateB p.now (D0.map (·.1)) x.1=true:=by unfold Pr.lateB;rw[hh,a0,<-c0.o,hmb];show decide (x.1.due+30<=p.now)=true;simp[hdu]
        refine bC (fun W:World=>W.cell? ⟨F,2,none⟩=some (true:Y)/\W.cell? F=some ((1:Int):Y)/\W.cell? ⟨mb,1,none⟩=some (false:Y)/\W.cell? ⟨F,1,none⟩=some (.int .i64 x.1.due)/\W.cell? ⟨t.B,13,none⟩=some (p.now:Y)) (⟨HF.cell 2 _ (by show some (Value.bool x.1.held)=_;rw[hh]),HF.cell 0 _ (by show some (Value.int .i64 (bI x.1.dst))=_;rw[a7]),(by have:=HS.cellM 1 _ rfl;rwa [hmb]at this),HF.cell 1 _ rfl,HS.st.cell 13 p.now rfl⟩) fun hZ=>?_;replace HS:=hid (HS.bel (Below.refl _ _).drew);replace HF:=hid (show aN F x w1.drew from HF.o);replace aF:=hid (aF.keep (Below.refl w1.heap.size w1).drew.size (aE.below (Below.refl w1.heap.size w1).drew));generalize w1.drew=w2 at *;refine aB 0 1 2 3 ?_;refine aB 4 5 6 7 ?_;refine aK 8 9 ?_;refine aO 10 (v:=.int .i64 (x.1.due+30)) ?_ (hy:=by intro w hSw;(obtain⟨z0,z1,z2,z3,z4⟩:=hSw);go_simp;(rw[IntWalk.i64_in (x.1.due+30) (by omega)]));refine aB 11 12 13 14 ?_;refine aO 15 (v:=.bool true) ?_ (hy:=by intro w hSw;(obtain⟨z0,z1,z2,z3,z4⟩:=hSw);go_simp;(try first | omega | (rw[decide_eq_true_iff];omega)));refine aK 16 17 ?_;refine az ?_ _;clear hZ;clear hh a7 a0 hmb hdu;go_wp2_with fail
        go_meet
        case rel=>exact⟨by rw[a5],HS.o,HF.o,aF.o⟩
       have a5:Pr.lateB p.now (D0.map (·.1)) x.1=false:=by unfold Pr.lateB;rw[hh,a0,<-c0.o,hmb];show decide (x.1.due+30<=p.now)=false;simp[hdu]
       refine bC (fun W:World=>W.cell? ⟨F,2,none⟩=some (true:Y)/\W.cell? F=some ((1:Int):Y)/\W.cell? ⟨mb,1,none⟩=some (false:Y)/\W.cell? ⟨F,1,none⟩=some (.int .i64 x.1.due)/\W.cell? ⟨t.B,13,none⟩=some (p.now:Y)) (⟨HF.cell 2 _ (by show some (Value.bool x.1.held)=_;rw[hh]),HF.cell 0 _ (by show some (Value.int .i64 (bI x.1.dst))=_;rw[a7]),(by have:=HS.cellM 1 _ rfl;rwa [hmb]at this),HF.cell 1 _ rfl,HS.st.cell 13 p.now rfl⟩) fun hZ=>?_
      all_goals
       replace HS:=hid (HS.bel (Below.refl _ _).drew);replace HF:=hid (show aN F x w1.drew from HF.o);replace aF:=hid (aF.keep (Below.refl w1.heap.size w1).drew.size (aE.below (Below.refl w1.heap.size w1).drew));generalize w1.drew=w2 at *;refine aB 0 1 2 3 ?_;refine aB 4 5 6 7 ?_;refine aK 8 9 ?_;refine aO 10 (v:=.int .i64 (x.1.due+30)) ?_ (hy:=by intro w hSw;(obtain⟨z0,z1,z2,z3,z4⟩:=hSw);go_simp;(rw[IntWalk.i64_in (x.1.due+30) (by omega)]));refine aB 11 12 13 14 ?_;refine aO 15 (v:=.bool false) ?_ (hy:=by intro w hSw;(obtain⟨z0,z1,z2,z3,z4⟩:=hSw);go_simp;(try first | omega | (rw[decide_eq_false_iff_not];omega)));refine aK 16 17 ?_;refine az ?_ _;clear hZ;clear hh a7 a0 hmb hdu;go_wp2_with fail
       go_meet
       case rel=>exact⟨by rw[a5],HS.o,HF.o,aF.o⟩
     replace hh:x.1.held=false:=by simpa using hh
     have a5:Pr.lateB p.now (D0.map (·.1)) x.1=false:=by unfold Pr.lateB;rw[hh];rfl
     refine bC (fun W:World=>W.cell? ⟨F,2,none⟩=some (false:Y)) (HF.cell 2 _ (by show some (Value.bool x.1.held)=_;rw[hh])) fun hZ=>?_;replace HS:=hid (HS.bel (Below.refl _ _).drew);replace HF:=hid (show aN F x w1.drew from HF.o);replace aF:=hid (aF.keep (Below.refl w1.heap.size w1).drew.size (aE.below (Below.refl w1.heap.size w1).drew));generalize w1.drew=w2 at *;refine aK 0 1 ?_;refine aO 2 ?_;refine aV 3 ?_;refine aV 4 ?_;refine aV 5 ?_;refine aV 6 ?_;refine aV 7 ?_;refine aV 8 ?_;refine aV 9 ?_;refine aV 10 ?_;refine aV 11 ?_;refine aV 12 ?_;refine aV 13 ?_;refine aV 14 ?_;refine aV 15 ?_;refine aV 16 ?_;refine aO 17 ?_;refine az ?_ _;clear hZ;clear hh;go_wp2_with fail
     go_meet
     case rel=>exact⟨by rw[a5],HS.o,HF.o,aF.o⟩
    case rest =>
     obtain⟨rfl,h1,h3,h4⟩:=hcut;clear HS HF aF;have HS:=hid h1;have HF:=hid h3;have aF:=hid h4;clear h1 h3 h4;obtain⟨b,a5⟩:∃b,Pr.lateB p.now (D0.map (·.1)) x.1=b:=⟨_,rfl⟩;rw[a5]at b4 b5|-;clear a5
     cases b
     ·have b0:=hid b4.o;have b1:=hid b5.o;have HP:=hid (HS.pst HF.o aF.o c1 d0.o);have HD:=hid HS.o;clear HS HF aF d0;obtain⟨tc,htc⟩:∃tc,tc=t1:=⟨_,rfl⟩;rw[<-htc]at HP HD;clear htc
      go_upto_region 18 with fail
      refine bC (aN F x) (HP.row) fun hZ=>?_;replace HP:=hid (HP.bel (Below.refl _ _).drew);replace HD:=hid (HD.bel (Below.refl _ _).drew);generalize hwd:World.drew _=w9 at HP HD hZ|-;clear hwd;have cS:w9.cell? ⟨t.B,12,none⟩=some tc.vW:=HP.st.cell 12 _ rfl;have hb:=(Below.refl w9.heap.size w9).alloc (Nat.le_refl _) (.cells (bE ([x]:List bG)).toArray 46);have c2:t.B<w9.heap.size:=by rw[<-HP.st.eB];exact HP.st.pa.lt
      have ey:=(World.cell?_of_block (a:=⟨t.B,12,none⟩) (hb.block t.B c2)).trans cS;refine aB 0 1 2 3 ?_;refine qP 5 (ct x) (fun _ h=>aN.range h) Tryz.underlying46 ci ?_ (ha:=by((try simp only[Act.put,List.setIfInBounds_toArray,List.set_cons_zero,List.set_cons_succ,ct,aW]);(try rfl)));refine wpAnyH_ready (rs:=[4,6]) (by kernel_rfl) (by simp) ?_;refine AllReadyH.cons (by simp only[List.getElem?_toArray,List.getElem?_cons_succ,List.getElem?_cons_zero];rfl) (fun Kq hKq=> ?_) (AllReadyH.cons (by simp only[List.getElem?_toArray,List.getElem?_cons_succ,List.getElem?_cons_zero];rfl) (fun Kq hKq=> ?_) AllReadyH.nil)
      focus
       go_simp;refine hKq.out _ _ (hZ) ?_;clear hKq Kq hZ;refine fun hZ=>aT ?_;refine aX 6 fun Kq hKq=> ?_;go_simp;refine hKq.out _ _ ((aN.below HP.row hb)) ?_;clear hKq Kq hZ;refine fun hZ=>aT ?_
      rotate_left 1
      focus
       go_simp;refine hKq.out _ _ ((aN.below HP.row hb)) ?_;clear hKq Kq hZ;refine fun hZ=>aT ?_;refine aX 4 fun Kq hKq=> ?_;go_simp;refine hKq.out _ _ (hZ) ?_;clear hKq Kq hZ;refine fun hZ=>aT ?_
      all_goals
       as_aux_lemma =>
        have ak:=hid (HP.bel hb);have a6:=hid (fI (M:=[x]) (heap_alloc_new w9 (.cells (bE ([x]:List bG)).toArray 46)));obtain⟨LL,cX,hLo⟩:=ak.st.pa.wire;have d1:=hid cX;have eL:=hid hLo;have hlen:LL.length=((fK p.now D0 (L.take k)).map (·.1)).length:=by rw[<-List.length_map (f:=(·.1)),cX]
        clear cX hLo;have eS:=hid (show LL.length+1<=1000000000000 by rw[hlen];have:=ev.o;omega);clear hlen;have an:=hid (show ∀u∈([x]:List bG),au (w9.alloc (.cells (bE ([x]:List bG)).toArray 46)) u.2.1 u.1.s.bl from fun u hu=>by rw[show u=x by simpa using hu];exact ak.bl);refine aX 7 fun Kq hKq=> ?_;refine bf rfl _ _ rfl N _ LL (by rfl) eL.o w9.heap.size 0 1 [x] (by rfl) a6.o an.o eS.o ak.st.pa.big ?_;intro v4 w10 ho4 hg4 hb4;obtain⟨a4,c4,hv4,-,-⟩:=ho4.val;obtain⟨n4,hn4⟩:∃n4,n4=(LL++[x]).length:=⟨_,rfl⟩;rw[<-hn4]at hv4;subst hv4;clear hn4;have HK:=hid (ak.grownW hg4);have d2:=hid (ak.wire _ (LL++[x]) hg4 ho4 (fun kk hkk=>by rcases hb4 with hb4 | ⟨k2,hb4,hb5⟩;exact .inl (by rw[<-hb4];exact hkk);exact .inr (by rw[hb4]at hkk;cases hkk;exact hb5)));have c3:=(HD.bel hb).pair (ak.st.pa.setW _ (LL++[x]) hg4 ho4 (fun kk hkk=>by rcases hb4 with hb4 | ⟨k2,hb4,hb5⟩;exact .inl (by rw[<-hb4];exact hkk);exact .inr (by rw[hb4]at hkk;cases hkk;exact hb5)));rw[ak.st.eB]at c3;replace c3:=hid c3;have cT:w10.cell? ⟨t.B,12,none⟩=some tc.vW:=(World.cell?_of_block (a:=⟨t.B,12,none⟩) HK.1).trans (ak.st.cell 12 _ rfl);have gT:w10.frozen? ⟨t.B,12,none⟩=false:=by have hk:=HK.1;rw[<-ak.st.eB]at hk|-;exact frozen_of_row _ _ _ _ _ (hk.trans ak.st.pa.blk)
        have c5:aN F x w10:=HK.2.trans ak.row;clear ho4 hg4 hb4;refine hKq.out _ _ (c5) ?_;clear hKq Kq hZ;refine fun hZ=>aT ?_;refine aK 8 9 ?_;refine aX 10 fun Kq hKq=> ?_;go_simp;refine hKq.out _ _ (d2.row) ?_;clear hKq Kq hZ;refine fun hZ=>aT ?_;refine az ?_ _;clear hZ cT gT c5 cS ey hb c2;replace HP:=hid (d2.eqQ (q':=({ p with wire:=(fK p.now D0 (L.take k)++[x]).map (·.1) }:Pr)) (by rw[List.map_append,List.map_append,d1.o]));replace HD:=hid (c3.eqQ (q':=({ p with wire:=(fK p.now D0 (L.take k)++[x]).map (·.1) }:Pr)) (by rw[List.map_append,List.map_append,d1.o]));clear c3;clear d2 HK ak a6 eL eS an d1;go_wp2_with fail
        go_roundg (gk-1)
        case measure=>omega
        case rel=>exact⟨k+1,_,by first | rfl | go_num | (have e:wrap64 ((k:Int)+1)=((k+1:Nat):Int):=(by unfold wrap64;omega);rw[e]),by omega,by rw[b0.o,b1.o,if_neg Bool.false_ne_true,if_neg Bool.false_ne_true];exact HD.o⟩
     have b0:=b4.o;have b1:=b5.o;rw[if_pos rfl]at b0 b1;have bc:=hid (aN.range HF.o);have aa:=(Below.refl wc.heap.size wc).alloc (Nat.le_refl _) (.cells (ct x).toArray 46);have a6:=hid (pK (heap_alloc_new wc (.cells (ct x).toArray 46)));replace HS:=hid (HS.bel aa);have an:=hid (show ∀u∈([x]:List bG),au (wc.alloc (.cells (ct x).toArray 46)) u.2.1 u.1.s.bl from fun u hu=>by rw[List.mem_singleton.1 hu];exact aF.keep aa.size (aE.below aa));have av:=hid (HF.below aa);have hll:(D0++eJ p.now D0 (L.take k)).length+([x]:List bG).length<=1000000000000:=by have:=bn;show _+1<=_;omega
     go_wp2_with (first | (at_builtin;refine dC _ rfl _ _ rfl N _ (D0++eJ p.now D0 (L.take k)) rfl HS.d wc.heap.size 0 1 [x] rfl a6.o an.o hll HS.st.pa.big ?_) | (refine wpList_load_mid rfl 46 _ rfl F 0 rfl (ct x) _ bc.o Tryz.underlying46 rfl ci ?_;(try dsimp only[ct,aW])))
     intro v4 w4 ho hg hb;clear hll a6 an aa bc;replace HF:=hid (show aN F x w4 from(hg.block F av.lt (fun e=>cL.o F e.symm rfl)).trans av.o);have bd:=hid (HS.app2 (x:=x) (by first | exact ho | (rw[List.append_assoc];exact ho)) hg (hb.imp id fun⟨kk,h1,h2⟩=>⟨kk,h1,by show(wc.heap.push _).size<=kk;rw[Array.size_push];exact h2⟩));clear av ho hg hb HS;have HS:=bd;clear bd;go_wp2_with fail
     go_roundg (gk-1)
     case measure=>omega
     case rel=>exact⟨k+1,t1,by first | rfl | go_num | (have e:wrap64 ((k:Int)+1)=((k+1:Nat):Int):=(by unfold wrap64;omega);rw[e]),by omega,by rw[b0,b1,<-List.append_assoc];exact HS.o⟩
   have hge:k=L.length:=by omega
   subst hge;rw[List.take_length]at HS;obtain⟨DD,hDD⟩:∃DD,DD=D0++eJ p.now D0 L:=⟨_,rfl⟩;rw[<-hDD]at HS;have e0:=hid hDD;clear hDD;obtain⟨_,_,hvv⟩:=HS.d.val'
   cases hvv
   have f1:DD.length<=200000000:=by rw[e0.o,List.length_append];have:(eJ p.now D0 L).length<=L.length:=List.length_filter_le _ _;omega
   have cb:=hid (wj da.o dT.out HL.o e0.o);obtain⟨q1,hq1⟩:∃q1:Pr,q1={ p with wire:=(fK p.now D0 L).map (·.1) }:=⟨_,rfl⟩;rw[<-hq1]at HS;have d3:=hid hq1;clear hq1;have f2:=hid (Pr.rest_fit HK.o);have f4:=HK.wlen;have cf:=hid (show q1={ p with wire:=p.rest }from by rw[d3.out,cb.2]);go_wp2_with fail
   go_loopg [9] DD.length (fun g iv wr=>∃(k:Nat) (t2:Ft),iv=((k:Int):Y)/\g+k=DD.length/\Dl N t w t2 (((DD.take k).map (·.1)).foldl Pr.recv1 q1) DD L (.slice a4 DD.length e4) (.slice a3 L.length e3) mb ba bb wr)
   case atStart=>exact⟨0,_,rfl,by omega,HS.o⟩
   case round =>
    obtain⟨k,t2,rfl,cn,hst⟩:=hrel;clear HS;have HS:=hid hst;clear hst;by_cases hk:k<DD.length
    ·have dk:(k:Int)<(DD.length:Int):=by omega
     have b6:=hid (rX DD k hk q1);obtain⟨g,cg,b8,hgl,hcs⟩:=HS.d.at hk;obtain⟨rfl,rfl⟩:a4=some ⟨g,0,none⟩/\e4=cg:=by cases b8;exact⟨rfl,rfl⟩
     have f5:=hid (HS.nd g rfl).1;have aF:=hid (HS.d.2 DD[k] (List.getElem_mem hk));have e5:=hid (show DD[k].1∈p.due from by rw[<-cb.1];exact List.mem_map_of_mem (List.getElem_mem hk));have c6:((DD.take k).map (·.1)).length=k:=by rw[List.length_map,List.length_take];omega
     have ac:=hid (Pr.fold_fit ((DD.take k).map (·.1)) (p:=q1) (by rw[cf.o];exact f2.o) (fun f hf=>by obtain⟨y,hy,rfl⟩:=List.mem_map.1 hf;exact HK.wire _ (Pr.due_mem (by rw[<-cb.1];exact List.mem_map_of_mem (List.mem_of_mem_take hy)))));have e6:=hid (Pr.Ml.fold ((DD.take k).map (·.1)) (show q1.Ml from by rw[cf.o];exact HM.o));have a6:=hid ((Pr.fold_now ((DD.take k).map (·.1)) q1).1.trans (by rw[cf.o]));rw[c6]at ac;clear c6;generalize ((DD.take k).map (·.1)).foldl Pr.recv1 q1=qk at HS b6 ac e6 a6;obtain⟨x,hx⟩:∃x,x=DD[k]:=⟨_,rfl⟩;rw[<-hx]at hcs aF e5 b6;clear hx b8;have d4:=hid (HK.wire x.1 (Pr.due_mem e5.o));have a9:=hid (vX ac.o e6.o d4.o (by omega) (by omega));have b9:=hid (uH hcs);have hd0:wr.cell? ⟨g,k*16,none⟩=some (bI x.1.dst:Y):=hcs 0 (by decide) _ rfl;clear hcs;have ad:=hid HK.in64;obtain⟨a0,a7⟩ | ⟨a0,a7⟩:=kf x.1.dst
     focus
      rw[a7]at hd0;have bu:=HS.st.cell 0 t2.fa.C rfl;have a9:=hid (show(qk.setC false (qk.a.c.receive qk.now x.1.s).1).log.length+(qk.a.c.receive qk.now x.1.s).2.length<=500000000000/\(qk.setC false (qk.a.c.receive qk.now x.1.s).1).wire.length+2*(qk.a.c.receive qk.now x.1.s).2.length<=500000000000/\(qk.setC false (qk.a.c.receive qk.now x.1.s).1).many+(qk.a.c.receive qk.now x.1.s).2.length<=1000000000000 from by have:=a9.o;rw[a0]at this;exact this);have b3:=hid (show qk.recv1 x.1=(qk.setC false (qk.a.c.receive qk.now x.1.s).1).put false (qk.a.c.receive qk.now x.1.s).2 from by unfold Pr.recv1;rw[a0];rfl);rw[a6.o]at a9 b3;go_wp2_with fail;clear bu hd0;refine bC (fun W:World=>W.cell? t.B=some (t2.fa.C:Y)/\W.cell? ⟨t.B,13,none⟩=some (p.now:Y)/\W.rangeAt g (k*16+3) (aW (x.1.s,x.2.1,x.2.2))) (⟨HS.st.cell 0 t2.fa.C rfl,by rw[<-a6.o];exact HS.st.cell 13 qk.now rfl,b9.o⟩) fun hZ=>?_;replace HS:=hid (HS.bel (Below.refl _ _).drew);replace aF:=hid (aF.keep (Below.refl wr.heap.size wr).drew.size (aE.below (Below.refl wr.heap.size wr).drew));generalize wr.drew=w3 at HS aF hZ|-;refine aB 0 1 2 3 ?_;refine aB 4 5 6 7 ?_;refine aB 8 9 10 11 ?_;refine aB 12 13 14 15 ?_;refine aO 16 ?_;refine qP 17 (aW (x.1.s,x.2.1,x.2.2)) (fun _ h=>h.2.2) Tryz.underlying43 jq ?_ (ha:=by((try simp only[Act.put,List.setIfInBounds_toArray,List.set_cons_zero,List.set_cons_succ,aW]);(try rfl)));refine aX 18 fun Kq hKq=> ?_;go_simp;refine(jA t2.fa qk.a.c p.now x.1.s x.2.1 x.2.2 _ HS.st.pa.a ac.a.c ad.o d4.o aF.o).mono ?_;rintro e w4⟨v,gg,rfl,hl,hc,hch,hgg⟩;have k4:=HS.st.pa.onC false gg _ hc hch hgg;have bv:=k4.fr.block g (HS.d.lt g rfl).2 (HS.nd g rfl).1;replace HS:=hid (HS.pair k4);have bx:=hid hl;clear hl hc hch hgg k4;go_simp;refine hKq.out _ _ (⟨HS.st.cell 0 t2.fa.C rfl,by rw[<-a6.o];exact HS.st.cell 13 qk.now rfl,fun j u hj=>(World.cell?_of_block (a:=⟨g,k*16+3+j,none⟩) bv).trans (hZ.2.2 j u hj)⟩) ?_;clear hKq Kq hZ;refine fun hZ=>aT ?_;have a1:=cJ N _ _ false _ v _ _ HS.st.pa bx.o a9.1 a9.2.1 a9.2.2 (by show 0<=qk.now/\qk.now<=1000000;rw[a6.o];exact⟨al,am⟩);rw[HS.st.eB,show bI false=0 from rfl]at a1;replace a1:=hid a1;refine aX 19 fun Kq hKq=> ?_;go_simp;refine(a1.o).mono ?_;rintro e w5⟨rfl,t5,k5⟩;have cC:=k5.fr.block g (HS.d.lt g rfl).2 (HS.nd g rfl).1;have cF:=k5.eC.1;replace HS:=hid (HS.pair k5);clear k5;go_simp;refine hKq.out _ _ (⟨(HS.st.cell 0 t5.fa.C rfl).trans (by rw[cF];rfl),(HS.st.cell 13 _ rfl).trans (congrArg (fun z=>some (Value.int .i64 z)) ((de _ _ _).2.2.1.trans a6.o)),fun j u hj=>(World.cell?_of_block (a:=⟨g,k*16+3+j,none⟩) cC).trans (hZ.2.2 j u hj)⟩) (fun ab=> ?_)
     rotate_left 1
     focus
      rw[a7]at hd0;have bu:=HS.st.cell 6 t2.fb.C rfl;have a9:=hid (show(qk.setC true (qk.b.c.receive qk.now x.1.s).1).log.length+(qk.b.c.receive qk.now x.1.s).2.length<=500000000000/\(qk.setC true (qk.b.c.receive qk.now x.1.s).1).wire.length+2*(qk.b.c.receive qk.now x.1.s).2.length<=500000000000/\(qk.setC true (qk.b.c.receive qk.now x.1.s).1).many+(qk.b.c.receive qk.now x.1.s).2.length<=1000000000000 from by have:=a9.o;rw[a0]at this;exact this);have b3:=hid (show qk.recv1 x.1=(qk.setC true (qk.b.c.receive qk.now x.1.s).1).put true (qk.b.c.receive qk.now x.1.s).2 from by unfold Pr.recv1;rw[a0];rfl);rw[a6.o]at a9 b3;go_wp2_with fail;clear bu hd0;refine bC (fun W:World=>W.cell? ⟨t.B,6,none⟩=some (t2.fb.C:Y)/\W.cell? ⟨t.B,13,none⟩=some (p.now:Y)/\W.rangeAt g (k*16+3) (aW (x.1.s,x.2.1,x.2.2))) (⟨HS.st.cell 6 t2.fb.C rfl,by rw[<-a6.o];exact HS.st.cell 13 qk.now rfl,b9.o⟩) fun hZ=>?_;replace HS:=hid (HS.bel (Below.refl _ _).drew);replace aF:=hid (aF.keep (Below.refl wr.heap.size wr).drew.size (aE.below (Below.refl wr.heap.size wr).drew));generalize wr.drew=w3 at HS aF hZ|-;refine aB 0 1 2 3 ?_;refine aB 4 5 6 7 ?_;refine aB 8 9 10 11 ?_;refine aB 12 13 14 15 ?_;refine aO 16 ?_;refine qP 17 (aW (x.1.s,x.2.1,x.2.2)) (fun _ h=>h.2.2) Tryz.underlying43 jq ?_ (ha:=by((try simp only[Act.put,List.setIfInBounds_toArray,List.set_cons_zero,List.set_cons_succ,aW]);(try rfl)));refine aX 18 fun Kq hKq=> ?_;go_simp;refine(jA t2.fb qk.b.c p.now x.1.s x.2.1 x.2.2 _ HS.st.pa.b ac.b.c ad.o d4.o aF.o).mono ?_;rintro e w4⟨v,gg,rfl,hl,hc,hch,hgg⟩;have k4:=HS.st.pa.onC true gg _ hc hch hgg;have bv:=k4.fr.block g (HS.d.lt g rfl).2 (HS.nd g rfl).1;replace HS:=hid (HS.pair k4);have bx:=hid hl;clear hl hc hch hgg k4;go_simp;refine hKq.out _ _ (⟨HS.st.cell 6 t2.fb.C rfl,by rw[<-a6.o];exact HS.st.cell 13 qk.now rfl,fun j u hj=>(World.cell?_of_block (a:=⟨g,k*16+3+j,none⟩) bv).trans (hZ.2.2 j u hj)⟩) ?_;clear hKq Kq hZ;refine fun hZ=>aT ?_;have a1:=cJ N _ _ true _ v _ _ HS.st.pa bx.o a9.1 a9.2.1 a9.2.2 (by show 0<=qk.now/\qk.now<=1000000;rw[a6.o];exact⟨al,am⟩);rw[HS.st.eB,show bI true=1 from rfl]at a1;replace a1:=hid a1;refine aX 19 fun Kq hKq=> ?_;go_simp;refine(a1.o).mono ?_;rintro e w5⟨rfl,t5,k5⟩;have cC:=k5.fr.block g (HS.d.lt g rfl).2 (HS.nd g rfl).1;have cF:=k5.eC.2.1;replace HS:=hid (HS.pair k5);clear k5;go_simp;refine hKq.out _ _ (⟨(HS.st.cell 6 t5.fb.C rfl).trans (by rw[cF];rfl),(HS.st.cell 13 _ rfl).trans (congrArg (fun z=>some (Value.int .i64 z)) ((de _ _ _).2.2.1.trans a6.o)),fun j u hj=>(World.cell?_of_block (a:=⟨g,k*16+3+j,none⟩) cC).trans (hZ.2.2 j u hj)⟩) (fun ab=> ?_)
     all_goals
      clear hKq Kq hZ;refine aT ?_;have hZ:=ab;clear ab;refine az ?_ _;clear hZ;go_wp2_with fail
      go_roundg (gk-1)
      case measure=>omega
      case rel=>exact⟨k+1,_,by first | rfl | go_num | (have e:wrap64 ((k:Int)+1)=((k+1:Nat):Int):=(by unfold wrap64;omega);rw[e]),by omega,by rw[b6.o,b3.o];exact HS.o⟩
    have hge:k=DD.length:=by omega
    subst hge;rw[List.take_length,cb.1,cf.o]at HS;go_wp2_with fail
    go_end0
    exact⟨rfl,t2,by rw[HR.o];exact HS.st⟩
end
section
set_option maxHeartbeats 8000000
set_option maxRecDepth 100000
open Go.RowKit Go.Shelf
theorem dS {X:Pr}{i:Bool}{l:List Sg}{q r:Int}(h:Pr.Fit (X.put i l) q r)(hw:X.wire.length<=400000000)(hm:X.Ml)(hr:r<=102000000000) :
  X.log.length+l.length<=500000000000/\X.wire.length+2*l.length<=500000000000/\X.many+l.length<=1000000000000:=by
 have h1:=h.llen;have h2:=(ix i l X).1;have h3:X.many=X.log.length:=hm;omega
theorem Pr.Ml.deliver {p:Pr}(h:p.Ml):p.deliver.Ml:=Pr.Ml.fold _ (show Pr.Ml { p with wire:=p.rest }from h)
theorem Pr.Ml.tick1 {p:Pr}(h:p.Ml)(i:Bool):(p.tick1 i).Ml:=Pr.Ml.put (h.setSd _ _) _ _
theorem Pr.Ml.tick {p:Pr}(h:p.Ml):p.tick.Ml:=((Pr.Ml.deliver (show Pr.Ml { p with now:=p.now+1 }from h)).tick1 false).tick1 true
def oO (p:Pr):Nat->Pr
 | 0=>p
 | 1=>p.tick1 false
 | _=>(p.tick1 false).tick1 true
theorem dP (N:Nat) (t:Ft) (p:Pr) (w:World) (q r:Int) (h:PrAt N t p w) (hk:Pr.Fit p q r) (hq:q<=90000000) (hr:r<=90000000000) (hm:p.Ml) (hn:p.now+1<=1000000) :
  Calls Tryz.prog 39 #[t.B] w (jI N t w p.tick):=by
 have be:=hk.now;obtain⟨al,am⟩:=be;have c7:=hid (h.set 13 (p.now+1:Int) { p with now:=p.now+1 } rfl rfl rfl rfl rfl rfl);have c13:=h.cell 13 p.now rfl;have f3:=h.free 13;have ch:=hid (show Pr.Fit { p with now:=p.now+1 } q r from⟨hk.a,hk.b,⟨by dsimp only;omega,hn⟩,hk.wire,hk.due,hk.log,hk.q,hk.r⟩);obtain⟨p0,hp0⟩:∃p0:Pr,p0={ p with now:=p.now+1 }:=⟨_,rfl⟩;rw[<-hp0]at c7 ch;have d5:=hid (show p0.Ml from by rw[hp0];exact hm);have HR:=hid (show p.tick=oO p0.deliver 2 from by rw[hp0];rfl);have hn0:p0.now=p.now+1:=by rw[hp0]
 have e7:=hid hn0;clear hp0 h hk hm hn0
 go_enter Tryz.func39,Tryz.ntmps39
 go_wp2_with fail;clear c13 f3;generalize w.setCell ⟨t.B,13,none⟩ (p.now+1:Int)=w1 at c7|-;refine(m8 N t p0 w1 q r c7.pa ch.o (by omega) (by omega) d5.o).mono ?_;rintro e w2⟨rfl,t1,k1⟩;have d6:=hid (c7.trans k1);clear k1 c7;have c8:=hid (Pr.deliver_fit ch.o);have d7:=hid d5.deliver;have d8:=hid (show p0.deliver.now=p.now+1 from((Pr.fold_now _ _).1).trans e7.o);obtain⟨pd,hpd⟩:∃pd,pd=p0.deliver:=⟨_,rfl⟩;rw[<-hpd]at d6 c8 d7 d8 HR;clear hpd ch d5 e7;go_wp2_with fail
 go_loopg [2] 2 (fun g iv wr=>∃(k:Nat) (t2:Ft),iv=((k:Int):Y)/\g+k=2/\PrSt N t w t2 (oO pd k) wr)
 case atStart=>exact⟨0,t1,rfl,rfl,d6.o⟩
 case round =>
  obtain⟨k,t2,rfl,cn,hst⟩:=hrel;have HS:=hid hst;clear hst d6;have hk3:k=0\/k=1\/k=2:=by omega
  rcases hk3 with hk0 | hk1 | hk2
  ·subst hk0;have ac:=hid (show Pr.Fit (oO pd 0) _ _ from c8.o);have c9:=hid (show Pr.Fit ((oO pd 0).tick1 false) _ _ from Pr.tick1_fit c8.o false);have ca:=hid (show(oO pd 0).Ml from d7.o);have ag:=hid (show(oO pd 0).now=p.now+1 from d8.o);have b6:=hid (show oO pd 1=(oO pd 0).tick1 false from rfl);generalize oO pd 0=pk at HS ac c9 ca ag b6;have b3:=hid (show pk.tick1 false=(pk.setC false (pk.a.c.tick (p.now+1)).1).put false (pk.a.c.tick (p.now+1)).2 from by rw[<-ag.o];rfl);have hwk:=ac.wlen;have a9:=hid (dS (X:=pk.setC false (pk.a.c.tick (p.now+1)).1) (i:=false) (l:=(pk.a.c.tick (p.now+1)).2) (by rw[<-b3.o];exact c9.o) (by show pk.wire.length<=400000000;omega) (ca.setSd false _) (by omega));clear hwk;have ad:=hid (show aI (p.now+1)from by unfold aI;omega);have bu:=HS.cell 0 t2.fa.C rfl;go_wp2_with fail;clear bu;refine bC (fun W:World=>W.cell? t.B=some (t2.fa.C:Y)/\W.cell? ⟨t.B,13,none⟩=some ((p.now+1:Int):Y)) (⟨HS.cell 0 t2.fa.C rfl,by rw[<-ag.o];exact HS.cell 13 pk.now rfl⟩) fun hZ=>?_;replace HS:=hid (HS.bel (Below.refl _ _).drew);generalize wr.drew=w3 at HS hZ|-;refine aB 0 1 2 3 ?_;refine aB 4 5 6 7 ?_;refine aB 8 9 10 11 ?_;refine aO 12 ?_;refine aX 13 fun Kq hKq=> ?_;go_simp;refine(li t2.fa pk.a.c (p.now+1) _ HS.pa.a ac.a.c ad.o).mono ?_;rintro e w4⟨v,rfl,hl,hc,hch⟩;have k4:=HS.pa.onC false t2.fa.G _ hc hch (.inl rfl);replace HS:=hid (HS.trans k4);have bx:=hid hl;clear hl hc hch k4;go_simp;refine hKq.out _ _ (⟨HS.cell 0 t2.fa.C rfl,by rw[<-ag.o];exact HS.cell 13 pk.now rfl⟩) ?_;clear hKq Kq hZ;refine fun hZ=>aT ?_;have a1:=cJ N _ _ false _ v _ _ HS.pa bx.o a9.1 a9.2.1 a9.2.2 (by show 0<=pk.now/\pk.now<=1000000;rw[ag.o];omega);rw[HS.eB,show bI false=0 from rfl]at a1;replace a1:=hid a1;refine aX 14 fun Kq hKq=> ?_;go_simp;refine(a1.o).mono ?_;rintro e w5⟨rfl,t5,k5⟩;have cF:=k5.eC.1;replace HS:=hid (HS.trans k5);clear k5;go_simp;refine hKq.out _ _ (⟨(HS.cell 0 t5.fa.C rfl).trans (by rw[cF];rfl),(HS.cell 13 _ rfl).trans (congrArg (fun z=>some (Value.int .i64 z)) ((de _ _ _).2.2.1.trans ag.o))⟩) ?_;clear hKq Kq hZ;refine fun hZ=>aT ?_;refine az ?_ _;clear hZ;go_wp2_with fail
   go_roundg (gk-1)
   case measure=>omega
   case rel=>exact⟨1,_,by first | rfl | go_num,by omega,by rw[b6.o,b3.o];exact HS.o⟩
  ·subst hk1;have ac:=hid (show Pr.Fit (oO pd 1) _ _ from(Pr.tick1_fit c8.o false));have c9:=hid (show Pr.Fit ((oO pd 1).tick1 true) _ _ from Pr.tick1_fit (Pr.tick1_fit c8.o false) true);have ca:=hid (show(oO pd 1).Ml from d7.tick1 false);have ag:=hid (show(oO pd 1).now=p.now+1 from((de _ _ _).2.2.1).trans d8.o);have b6:=hid (show oO pd 2=(oO pd 1).tick1 true from rfl);generalize oO pd 1=pk at HS ac c9 ca ag b6;have b3:=hid (show pk.tick1 true=(pk.setC true (pk.b.c.tick (p.now+1)).1).put true (pk.b.c.tick (p.now+1)).2 from by rw[<-ag.o];rfl);have hwk:=ac.wlen;have a9:=hid (dS (X:=pk.setC true (pk.b.c.tick (p.now+1)).1) (i:=true) (l:=(pk.b.c.tick (p.now+1)).2) (by rw[<-b3.o];exact c9.o) (by show pk.wire.length<=400000000;omega) (ca.setSd true _) (by omega));clear hwk;have ad:=hid (show aI (p.now+1)from by unfold aI;omega);have bu:=HS.cell 6 t2.fb.C rfl;go_wp2_with fail;clear bu;refine bC (fun W:World=>W.cell? ⟨t.B,6,none⟩=some (t2.fb.C:Y)/\W.cell? ⟨t.B,13,none⟩=some ((p.now+1:Int):Y)) (⟨HS.cell 6 t2.fb.C rfl,by rw[<-ag.o];exact HS.cell 13 pk.now rfl⟩) fun hZ=>?_;replace HS:=hid (HS.bel (Below.refl _ _).drew);generalize wr.drew=w3 at HS hZ|-;refine aB 0 1 2 3 ?_;refine aB 4 5 6 7 ?_;refine aB 8 9 10 11 ?_;refine aO 12 ?_;refine aX 13 fun Kq hKq=> ?_;go_simp;refine(li t2.fb pk.b.c (p.now+1) _ HS.pa.b ac.b.c ad.o).mono ?_;rintro e w4⟨v,rfl,hl,hc,hch⟩;have k4:=HS.pa.onC true t2.fb.G _ hc hch (.inl rfl);replace HS:=hid (HS.trans k4);have bx:=hid hl;clear hl hc hch k4;go_simp;refine hKq.out _ _ (⟨HS.cell 6 t2.fb.C rfl,by rw[<-ag.o];exact HS.cell 13 pk.now rfl⟩) ?_;clear hKq Kq hZ;refine fun hZ=>aT ?_;have a1:=cJ N _ _ true _ v _ _ HS.pa bx.o a9.1 a9.2.1 a9.2.2 (by show 0<=pk.now/\pk.now<=1000000;rw[ag.o];omega);rw[HS.eB,show bI true=1 from rfl]at a1;replace a1:=hid a1;refine aX 14 fun Kq hKq=> ?_;go_simp;refine(a1.o).mono ?_;rintro e w5⟨rfl,t5,k5⟩;have cF:=k5.eC.2.1;replace HS:=hid (HS.trans k5);clear k5;go_simp;refine hKq.out _ _ (⟨(HS.cell 6 t5.fb.C rfl).trans (by rw[cF];rfl),(HS.cell 13 _ rfl).trans (congrArg (fun z=>some (Value.int .i64 z)) ((de _ _ _).2.2.1.trans ag.o))⟩) ?_;clear hKq Kq hZ;refine fun hZ=>aT ?_;refine az ?_ _;clear hZ;go_wp2_with fail
   go_roundg (gk-1)
   case measure=>omega
   case rel=>exact⟨2,_,by first | rfl | go_num,by omega,by rw[b6.o,b3.o];exact HS.o⟩
  subst hk2;go_wp2_with fail
  go_end0
  exact⟨rfl,t2,by rw[HR.o];exact HS.o⟩
end
end Go.Proofs.YtclkcmidhhfdmaaGreatDoor
