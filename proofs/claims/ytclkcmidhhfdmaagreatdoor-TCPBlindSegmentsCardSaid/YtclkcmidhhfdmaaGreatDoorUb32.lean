import Derived.Test.YtclkcmidhhfdmaaGreatDoorUb28
import Derived.Test.YtclkcmidhhfdmaaGreatDoorUb31
namespace Go.Proofs.YtclkcmidhhfdmaaGreatDoor
open Lib (hid)
section
set_option maxHeartbeats 8000000
set_option maxRecDepth 100000
open Go.RowKit Go.Shelf
def dP (now:Int)(M:List bD):List bD:=M.filter fun x=>Pr.readyB now x.1
def ek (now:Int)(M:List bD):List bD:=M.filter fun x=> !Pr.readyB now x.1
theorem fj {α:Type}(M:List α)(k:Nat)(h:k<M.length):M.take (k+1)=M.take k++[M[k]]:=by rw[List.take_succ_eq_append_getElem h]
theorem tj (now:Int)(M:List bD)(k:Nat)(h:k<M.length):dP now (M.take (k+1))=if Pr.readyB now M[k].1=true then dP now (M.take k)++[M[k]]else dP now (M.take k):=by
 unfold dP;rw[fj M k h,List.filter_append];by_cases hb:Pr.readyB now M[k].1=true <;> simp[hb]
theorem rD (now:Int)(M:List bD)(k:Nat)(h:k<M.length):ek now (M.take (k+1))=if Pr.readyB now M[k].1=true then ek now (M.take k)else ek now (M.take k)++[M[k]]:=by
 unfold ek;rw[fj M k h,List.filter_append];by_cases hb:Pr.readyB now M[k].1=true <;> simp[hb]
def fP (l:List bD)(d:Bool):Bool:=l.any fun f=>f.1.dst==d
theorem iS (l:List bD)(x:bD)(d:Bool):fP (l++[x]) d=(fP l d||x.1.dst==d):=by unfold fP;rw[List.any_append];simp
theorem mB (b:Bool):(b=false/\bI b=0)\/(b=true/\bI b=1):=by cases b <;> simp[bI]
def eo (now:Int)(D L:List bD):List bD:=L.filter fun x=>Pr.lateB now (D.map (·.1)) x.1
def fk (now:Int)(D L:List bD):List bD:=L.filter fun x=> !Pr.lateB now (D.map (·.1)) x.1
theorem rE (now:Int)(D M:List bD)(k:Nat)(h:k<M.length):eo now D (M.take (k+1))=if Pr.lateB now (D.map (·.1)) M[k].1=true then eo now D (M.take k)++[M[k]]else eo now D (M.take k):=by
 unfold eo;rw[fj M k h,List.filter_append];by_cases hb:Pr.lateB now (D.map (·.1)) M[k].1=true <;> simp[hb]
theorem rF (now:Int)(D M:List bD)(k:Nat)(h:k<M.length):fk now D (M.take (k+1))=if Pr.lateB now (D.map (·.1)) M[k].1=true then fk now D (M.take k)else fk now D (M.take k)++[M[k]]:=by
 unfold fk;rw[fj M k h,List.filter_append];by_cases hb:Pr.lateB now (D.map (·.1)) M[k].1=true <;> simp[hb]
theorem zx {p:Pr}{M D0 L DD:List bD}(h:M.map (·.1)=p.wire)(h1:D0=dP p.now M)(h2:L=ek p.now M)(h3:DD=D0++eo p.now D0 L):DD.map (·.1)=p.due/\(fk p.now D0 L).map (·.1)=p.rest:=by
 have e1:D0.map (·.1)=Pr.due1 p.now p.wire:=by rw[h1,<-h];unfold dP Pr.due1;rw[List.filter_map];rfl
 have e2:L.map (·.1)=Pr.left1 p.now p.wire:=by rw[h2,<-h];unfold ek Pr.left1;rw[List.filter_map];rfl
 constructor
 ·rw[h3,List.map_append,e1];unfold Pr.due eo;rw[e1,<-e2,List.filter_map];rfl
 unfold Pr.rest fk;rw[e1,<-e2,List.filter_map];rfl
theorem wV {w:World}{g k:Nat}{x:bD}(h:∀j,j<16->∀u,(cQ x)[j]? =some u->w.cell? ⟨g,k*16+j,none⟩=some u):w.rangeAt g (k*16+3) (aU (x.1.s,x.2.1,x.2.2)):=fun j v hj=>by
 have h1:j<13:=by have:=(List.getElem?_eq_some_iff.1 hj).1;exact this
 have h2:(cQ x)[3+j]? =some v:=by rw[Nat.add_comm];exact hj
 rw[Nat.add_assoc];exact h (3+j) (by omega) v h2
def Pr.Ml (p:Pr):Prop:=p.many=p.log.length
theorem Pr.Ml.put {p:Pr}(h:p.Ml)(i:Bool)(l:List Sg):(p.put i l).Ml:=by
 unfold Pr.Ml at h|-;rw[pg,(jl i l p).1,h]
theorem Pr.Ml.setSd {p:Pr}(h:p.Ml)(i:Bool)(d:Sd):(p.setSd i d).Ml:=by cases i <;> exact h
theorem Pr.Ml.recv1 {p:Pr}(h:p.Ml)(f:Fl):(p.recv1 f).Ml:=Pr.Ml.put (h.setSd _ _) _ _
theorem Pr.Ml.fold:∀(l:List Fl) {p:Pr},p.Ml->(l.foldl Pr.recv1 p).Ml:=by
 intro l
 induction l with
 | nil=>exact fun h=>h
 | cons f l ih=>exact fun h=>ih (h.recv1 f)
theorem tn (DD:List bD)(k:Nat)(h:k<DD.length)(q:Pr):((DD.take (k+1)).map (·.1)).foldl Pr.recv1 q=(((DD.take k).map (·.1)).foldl Pr.recv1 q).recv1 DD[k].1:=by
 rw[fj DD k h,List.map_append,List.foldl_append];rfl
theorem yd {p:Pr}{q r:Int}(h:Pr.Fit p q r)(hm:p.Ml){f:Fl}(hf:f.s.Ok)(hq:q<=400000000)(hr:r<=101000000000) :
  let d:=(p.sd f.dst).c.receive p.now f.s
  (p.setC f.dst d.1).log.length+d.2.length<=500000000000/\(p.setC f.dst d.1).wire.length+2*d.2.length<=500000000000/\(p.setC f.dst d.1).many+d.2.length<=1000000000000:=by
 intro d;have h1:=(Pr.recv1_fit h hf).llen;have h2:(p.recv1 f).log.length=(p.setC f.dst d.1).log.length+d.2.length:=(jl f.dst d.2 _).1;have h3:=h.wlen;have h4:(p.setC f.dst d.1).wire=p.wire:=by cases f.dst <;> rfl
 have h5:(p.setC f.dst d.1).many=p.many:=by cases f.dst <;> rfl
 have h6:(p.setC f.dst d.1).log=p.log:=by cases f.dst <;> rfl
 have h7:p.many=p.log.length:=hm;rw[h6]at h2|-;rw[h4,h5];omega
theorem rr (D:List bD)(d:Bool):fP D d=Pr.metB (D.map (·.1)) d:=by unfold fP Pr.metB;rw[List.any_map];rfl
theorem oH (N:Nat) (t:Ft) (p:Pr) (w:World) (q r:Int) (h:PrAt N t p w) (hk:Pr.Fit p q r) (hq:q<=100000000) (hr:r<=100000000000) (hm:p.many=p.log.length) :
  Calls Tryz.prog 77 #[.pointer (some ⟨t.B,0,none⟩)] w (kE N t w p.deliver):=by
 have d8:=hid h;have HK:=hid hk;have HM:=hid hm;have e7:=hid hk.due;have be:=hk.now;have e8:=hk.wlen;obtain⟨al,am⟩:=be;obtain⟨M,hM,cl⟩:=h.wire;have d9:=hid hM;have e9:=hid cl;have ec:M.length=p.wire.length:=by rw[<-hM,List.length_map]
 have eg:(M.length:Int)<=100000000:=by omega
 clear ec e8;obtain⟨a,cap,hv⟩:=cl.val';have HV:=hid hv;have hbg:=h.big;have hlt:=h.lt;obtain⟨R,hR⟩:∃R,R=p.deliver:=⟨_,rfl⟩;rw[<-hR];have HR:=hid hR;clear hR hM cl hv hk hm h
 go_enter Tryz.func77,Tryz.ntmps77
 have c12:w.cell? ⟨t.B,12,none⟩=some (.slice a M.length cap):=by have:=d8.cell 12 t.vW rfl;rwa [HV.o]at this
 go_wp2_with fail;obtain⟨mb,hmb⟩:∃mb,mb=w.heap.size:=⟨_,rfl⟩;have da:=hid (show Dl N t w t p [] [] (.slice none 0 0) (.slice none 0 0) mb false false (w.alloc (.cells #[.bool false,.bool false] 149))from by subst hmb;exact Dl.start d8.o);rw[<-hmb];clear hmb c12
 go_loopg [2,3,5] M.length (fun g v2 v3 iv wr=>∃(k:Nat),iv= .int .i64 (k:Int)/\g+k=M.length/\Dl N t w t p (dP p.now (M.take k)) (ek p.now (M.take k)) v2 v3 mb (fP (dP p.now (M.take k)) false) (fP (dP p.now (M.take k)) true) wr/\bO wr N t.vW M)
 case atStart=>exact⟨0,rfl,by omega,da.o,e9.below ((Below.refl _ w).alloc (Nat.le_refl _) _)⟩
 case round =>
  obtain⟨k,rfl,cn,hst,how⟩:=hrel;have HS:=hid hst;have HW:=hid how;clear hst how da;obtain⟨a2,e2,hv2⟩:=HS.d.val';obtain⟨a3,e3,hv3⟩:=HS.l.val';subst hv2 hv3;have c12:wr.cell? ⟨t.B,12,none⟩=some (.slice a M.length cap):=by have:=HS.st.cell 12 t.vW rfl;rwa [HV.o]at this
  by_cases hk:k<M.length
  ·have dc:(k:Int)<(M.length:Int):=by omega
   have b4:=hid (tj p.now M k hk);have b5:=hid (rD p.now M k hk);obtain⟨g,cg,b8,hgl,hcs⟩:=HW.at hk;obtain⟨rfl,rfl⟩:a=some ⟨g,0,none⟩/\cap=cg:=by have h1:=HV.o;rw[b8]at h1;cases h1;exact⟨rfl,rfl⟩
   have aF:=hid (HW.2 M[k] (List.getElem_mem hk));obtain⟨x,hx⟩:∃x,x=M[k]:=⟨_,rfl⟩;rw[<-hx]at hcs aF b4 b5;clear hx b8;have b9:=hid (ph hcs);clear hcs
   go_wp2_with (refine wpList_load_mid rfl 46 _ rfl g (k*16) rfl (cQ x) _ b9.o Tryz.underlying46 rfl dA ?_;(try dsimp only[cQ,aU]))
   have bn:(dP p.now (M.take k)).length<=100000000:=Nat.le_trans (List.length_filter_le _ _) (by rw[List.length_take];omega);have cs:(ek p.now (M.take k)).length<=100000000:=Nat.le_trans (List.length_filter_le _ _) (by rw[List.length_take];omega);have dk:=hid (fun kk (e:_=some kk)=>Nat.ne_of_lt (HS.l.lt kk e).2);clear b9;change Code.wp _ _ _ _ (wr.alloc (.cells (cQ x).toArray 46));have ax:=(Below.refl wr.heap.size wr).alloc (Nat.le_refl _) (.cells (cQ x).toArray 46);have HF:=hid (aO.new wr x);have ei:=hid (fun kk (e:t.vW.ownBlock=some kk)=>Nat.ne_of_lt (HW.lt kk e).2);have cL:=hid (fun kk (e:_=some kk)=>Nat.ne_of_lt (HS.d.lt kk e).2);replace HS:=hid (HS.bel ax);replace HW:=hid (HW.below ax);replace aF:=hid (aF.keep ax.size (aE.below ax));clear ax;generalize hF:wr.heap.size=F at HF cL dk ei|-;generalize wr.alloc (.cells (cQ x).toArray 46)=w1 at *;clear hF
   go_upto_region 7 with fail
   go_cut [39]from 28 to 38 (fun v39 wx=>v39= .bool (Pr.readyB p.now x.1)/\Dl N t w t p (dP p.now (M.take k)) (ek p.now (M.take k)) (.slice a2 (dP p.now (M.take k)).length e2) (.slice a3 (ek p.now (M.take k)).length e3) mb (fP (dP p.now (M.take k)) false) (fP (dP p.now (M.take k)) true) wx/\bO wx N t.vW M/\aO F x wx/\bA wx x.2.1 x.1.s.bl)
   case first =>
    by_cases hh:x.1.held=true
    ·have a5:Pr.readyB p.now x.1=false:=by unfold Pr.readyB;rw[hh];rfl
     refine bJ (fun W:World=>W.cell? ⟨F,2,none⟩=some (.bool true)) (HF.cell 2 _ (by show some (Value.bool x.1.held)=_;rw[hh])) fun hZ=>?_;replace HS:=hid (HS.bel (Below.refl _ _).drew);replace HF:=hid (show aO F x w1.drew from HF.o);replace HW:=hid (show bO w1.drew N t.vW M from HW.below (Below.refl _ _).drew);replace aF:=hid (aF.keep (Below.refl w1.heap.size w1).drew.size (aE.below (Below.refl w1.heap.size w1).drew));generalize w1.drew=w2 at *;refine aC 0 1 2 3 ?_;refine aX 4 ?_;refine aX 5 ?_;refine aX 6 ?_;refine aX 7 ?_;refine aX 8 ?_;refine aX 9 ?_;refine aX 10 ?_;refine aP 11 ?_;refine bE ?_ _;clear hZ;clear hh;go_wp2_with fail
     go_meet
     case rel=>exact⟨by rw[a5],HS.o,HW.o,HF.o,aF.o⟩
    replace hh:x.1.held=false:=by simpa using hh
    by_cases hdu:x.1.due<=p.now
    ·have a5:Pr.readyB p.now x.1=true:=by unfold Pr.readyB;rw[hh];show decide (x.1.due<=p.now)=true;simp[hdu]
     refine bJ (fun W:World=>W.cell? ⟨F,2,none⟩=some (.bool false)/\W.cell? ⟨F,1,none⟩=some (.int .i64 x.1.due)/\W.cell? ⟨t.B,13,none⟩=some (.int .i64 p.now)) (⟨HF.cell 2 _ (by show some (Value.bool x.1.held)=_;rw[hh]),HF.cell 1 _ rfl,HS.st.cell 13 (.int .i64 p.now) rfl⟩) fun hZ=>?_;replace HS:=hid (HS.bel (Below.refl _ _).drew);replace HF:=hid (show aO F x w1.drew from HF.o);replace HW:=hid (show bO w1.drew N t.vW M from HW.below (Below.refl _ _).drew);replace aF:=hid (aF.keep (Below.refl w1.heap.size w1).drew.size (aE.below (Below.refl w1.heap.size w1).drew));generalize w1.drew=w2 at *;refine aC 0 1 2 3 ?_;refine aC 4 5 6 7 ?_;refine aK 8 9 ?_;refine aP 10 (v:=.bool true) ?_ (hy:=by intro w hSw;(obtain⟨z0,z1,z2⟩:=hSw);go_simp;(try first | omega | (rw[decide_eq_true_iff];omega)));refine aP 11 ?_;refine bE ?_ _;clear hZ;clear hh;go_wp2_with fail
     go_meet
     case rel=>exact⟨by rw[a5],HS.o,HW.o,HF.o,aF.o⟩
    have a5:Pr.readyB p.now x.1=false:=by unfold Pr.readyB;rw[hh];show decide (x.1.due<=p.now)=false;simp[hdu]
    refine bJ (fun W:World=>W.cell? ⟨F,2,none⟩=some (.bool false)/\W.cell? ⟨F,1,none⟩=some (.int .i64 x.1.due)/\W.cell? ⟨t.B,13,none⟩=some (.int .i64 p.now)) (⟨HF.cell 2 _ (by show some (Value.bool x.1.held)=_;rw[hh]),HF.cell 1 _ rfl,HS.st.cell 13 (.int .i64 p.now) rfl⟩) fun hZ=>?_;replace HS:=hid (HS.bel (Below.refl _ _).drew);replace HF:=hid (show aO F x w1.drew from HF.o);replace HW:=hid (show bO w1.drew N t.vW M from HW.below (Below.refl _ _).drew);replace aF:=hid (aF.keep (Below.refl w1.heap.size w1).drew.size (aE.below (Below.refl w1.heap.size w1).drew));generalize w1.drew=w2 at *;refine aC 0 1 2 3 ?_;refine aC 4 5 6 7 ?_;refine aK 8 9 ?_;refine aP 10 (v:=.bool false) ?_ (hy:=by intro w hSw;(obtain⟨z0,z1,z2⟩:=hSw);go_simp;(try first | omega | (rw[decide_eq_false_iff_not];omega)));refine aP 11 ?_;refine bE ?_ _;clear hZ;clear hh;go_wp2_with fail
    go_meet
    case rel=>exact⟨by rw[a5],HS.o,HW.o,HF.o,aF.o⟩
   case rest =>
    obtain⟨rfl,h1,h2,h3,h4⟩:=hcut;clear HS HW HF aF;have HS:=hid h1;have HW:=hid h2;have HF:=hid h3;have aF:=hid h4;clear h1 h2 h3 h4;obtain⟨b,a5⟩:∃b,Pr.readyB p.now x.1=b:=⟨_,rfl⟩;rw[a5]at b4 b5|-;clear a5
    cases b
    ·have b0:=b4.o;have b1:=b5.o;rw[if_neg Bool.false_ne_true]at b0 b1;have bc:=hid (aO.range HF.o);have aa:=(Below.refl wc.heap.size wc).alloc (Nat.le_refl _) (.cells (cQ x).toArray 46);have a6:=hid (qy (heap_alloc_new wc (.cells (cQ x).toArray 46)));replace HS:=hid (HS.bel aa);have an:=hid (show ∀u∈([x]:List bD),bA (wc.alloc (.cells (cQ x).toArray 46)) u.2.1 u.1.s.bl from fun u hu=>by rw[List.mem_singleton.1 hu];exact aF.keep aa.size (aE.below aa));have av:=hid (HF.below aa);have bo:=hid (HW.below aa);have hll:(ek p.now (M.take k)).length+([x]:List bD).length<=1000000000000:=by have:=cs;show _+1<=_;omega
     go_wp2_with (first | (at_builtin;refine dW _ rfl _ _ rfl N _ (ek p.now (M.take k)) rfl HS.l wc.heap.size 0 1 [x] rfl a6.o an.o hll HS.st.pa.big ?_) | (refine wpList_load_mid rfl 46 _ rfl F 0 rfl (cQ x) _ bc.o Tryz.underlying46 rfl dA ?_;(try dsimp only[cQ,aU])))
     intro v4 w4 ho hg hb;clear hll a6 an aa bc;replace HF:=hid (show aO F x w4 from(hg.block F av.lt (fun e=>dk.o F e.symm rfl)).trans av.o);replace HW:=hid (bo.keep hg.size (HS.l.spanKept hg) (fun kk e=>hg.block kk (bo.lt kk e).2 (fun e2=>(HS.nl kk e2.symm).1 (.inr (.inr (.inr (.inl e)))))));clear bo;have bd:=hid (HS.app3 (x:=x) (by first | exact ho | (rw[List.append_assoc];exact ho)) hg (hb.imp id fun⟨kk,h1,h2⟩=>⟨kk,h1,by show(wc.heap.push _).size<=kk;rw[Array.size_push];exact h2⟩));clear av ho hg hb HS;have HS:=bd;clear bd;go_wp2_with fail
     go_roundg (gk-1)
     case measure=>omega
     case rel=>exact⟨k+1,by first | rfl | go_num | (have e:wrap64 ((k:Int)+1)=((k+1:Nat):Int):=(by unfold wrap64;omega);rw[e]),by omega,by rw[b0,b1];exact HS.o,HW.o⟩
    have b0:=b4.o;have b1:=b5.o;rw[if_pos rfl]at b0 b1;have bc:=hid (aO.range HF.o);have aa:=(Below.refl wc.heap.size wc).alloc (Nat.le_refl _) (.cells (cQ x).toArray 46);have a6:=hid (qy (heap_alloc_new wc (.cells (cQ x).toArray 46)));replace HS:=hid (HS.bel aa);have an:=hid (show ∀u∈([x]:List bD),bA (wc.alloc (.cells (cQ x).toArray 46)) u.2.1 u.1.s.bl from fun u hu=>by rw[List.mem_singleton.1 hu];exact aF.keep aa.size (aE.below aa));have av:=hid (HF.below aa);have bo:=hid (HW.below aa);have hll:(dP p.now (M.take k)).length+([x]:List bD).length<=1000000000000:=by have:=bn;show _+1<=_;omega
    go_wp2_with (first | (at_builtin;refine dW _ rfl _ _ rfl N _ (dP p.now (M.take k)) rfl HS.d wc.heap.size 0 1 [x] rfl a6.o an.o hll HS.st.pa.big ?_) | (refine wpList_load_mid rfl 46 _ rfl F 0 rfl (cQ x) _ bc.o Tryz.underlying46 rfl dA ?_;(try dsimp only[cQ,aU])))
    intro v4 w4 ho hg hb;clear hll a6 an aa bc;replace HF:=hid (show aO F x w4 from(hg.block F av.lt (fun e=>cL.o F e.symm rfl)).trans av.o);replace HW:=hid (bo.keep hg.size (HS.d.spanKept hg) (fun kk e=>hg.block kk (bo.lt kk e).2 (fun e2=>(HS.nd kk e2.symm).1 (.inr (.inr (.inr (.inl e)))))));clear bo;have bd:=hid (HS.app2 (x:=x) (by first | exact ho | (rw[List.append_assoc];exact ho)) hg (hb.imp id fun⟨kk,h1,h2⟩=>⟨kk,h1,by show(wc.heap.push _).size<=kk;rw[Array.size_push];exact h2⟩));clear av ho hg hb HS;have HS:=bd;clear bd;obtain⟨a0,a7⟩ | ⟨a0,a7⟩:=mB x.1.dst
    focus
     have k0:w4.cell? ⟨F,0,none⟩=some (.int .i64 0):=HF.cell 0 _ (by show some (Value.int .i64 (bI x.1.dst))=_;rw[a7]);have m0:=HS.cellM 0 _ rfl;have f0:=HS.freeM 0;have ea:fP (dP p.now (M.take k)++[x]) false=true:=by rw[iS,a0];simp
     have eb:fP (dP p.now (M.take k)++[x]) true=fP (dP p.now (M.take k)) true:=by rw[iS,a0];simp
     have dl:=hid (HS.flag 0 (.bool true) (fP (dP p.now (M.take k)++[x]) false) (fP (dP p.now (M.take k)++[x]) true) (by rw[ea,eb];rfl));have cM:Chg mb w4 (w4.setCell ⟨mb,0,none⟩ (.bool true)):=(Chg.refl _ _).setCell 0 (.bool true)
    rotate_left 1
    focus
     have k0:w4.cell? ⟨F,0,none⟩=some (.int .i64 1):=HF.cell 0 _ (by show some (Value.int .i64 (bI x.1.dst))=_;rw[a7]);have m0:=HS.cellM 1 _ rfl;have f0:=HS.freeM 1;have ea:fP (dP p.now (M.take k)++[x]) true=true:=by rw[iS,a0];simp
     have eb:fP (dP p.now (M.take k)++[x]) false=fP (dP p.now (M.take k)) false:=by rw[iS,a0];simp
     have dl:=hid (HS.flag 1 (.bool true) (fP (dP p.now (M.take k)++[x]) false) (fP (dP p.now (M.take k)++[x]) true) (by rw[ea,eb];rfl));have cM:Chg mb w4 (w4.setCell ⟨mb,1,none⟩ (.bool true)):=(Chg.refl _ _).setCell 1 (.bool true)
    all_goals
     have el:=hid (HW.keep cM.size (.chg cM HS.mty (by decide)) (fun kk e=>cM.block kk (HW.lt kk e).2 ((HW.ty kk e).ne HS.mty (by decide))));clear cM ea eb;go_wp2_with fail
     go_roundg (gk-1)
     case measure=>omega
     case rel=>exact⟨k+1,by first | rfl | go_num | (have e:wrap64 ((k:Int)+1)=((k+1:Nat):Int):=(by unfold wrap64;omega);rw[e]),by omega,by rw[b0,b1];exact dl.o,el.o⟩
  have hge:k=M.length:=by omega
  subst hge;rw[List.take_length]at HS|-;have em:=HS.st.free 12;have b2:=HS.pair (HS.st.pa.setW (.slice none 0 0) [] (World.grownBy.refl _ _) (bO.nil _ _) (fun _ h=>nomatch h));rw[HS.st.eB]at b2;replace b2:=hid b2;have cX:(ek p.now M).length<=100000000:=Nat.le_trans (List.length_filter_le _ _) (by omega);have en:(dP p.now M).length<=100000000:=Nat.le_trans (List.length_filter_le _ _) (by omega);have cY:=hid (rr (dP p.now M) false);have c0:=hid (rr (dP p.now M) true);go_wp2_with fail;clear em HS HW c12;generalize wr.setCell ⟨t.B,12,none⟩ (.slice none 0 0)=w0 at b2|-;obtain⟨L,hL⟩:∃L,L=ek p.now M:=⟨_,rfl⟩;have HL:=hid hL;rw[<-hL]at b2 cX|-;clear hL;obtain⟨D0,hD0⟩:∃D0,D0=dP p.now M:=⟨_,rfl⟩;have dI:=hid hD0;rw[<-hD0]at b2 cY c0 en|-;clear hD0;obtain⟨ba,hba⟩:∃b,b=fP D0 false:=⟨_,rfl⟩;obtain⟨bb,hbb⟩:∃b,b=fP D0 true:=⟨_,rfl⟩;rw[<-hba]at b2 cY;rw[<-hbb]at b2 c0;clear hba hbb
  go_loopg [2,7] L.length (fun g v2 iv wr=>∃(k:Nat) (t1:Ft),iv= .int .i64 (k:Int)/\g+k=L.length/\Dl N t w t1 { p with wire:=(fk p.now D0 (L.take k)).map (·.1) } (D0++eo p.now D0 (L.take k)) L v2 (.slice a3 L.length e3) mb ba bb wr)
  case atStart=>exact⟨0,_,rfl,by omega,by show Dl _ _ _ _ _ (D0++[]) _ _ _ _ _ _ _;rw[List.append_nil];exact b2.o⟩
  case round =>
   obtain⟨k,t1,rfl,cn,hst⟩:=hrel;have HS:=hid hst;clear hst b2;obtain⟨a4,e4,hv4⟩:=HS.d.val';obtain⟨n2,hn2⟩:∃n2,n2=(D0++eo p.now D0 (L.take k)).length:=⟨_,rfl⟩;rw[<-hn2]at hv4;subst hv4;clear hn2;by_cases hk:k<L.length
   ·have dc:(k:Int)<(L.length:Int):=by omega
    have b4:=hid (rE p.now D0 L k hk);have b5:=hid (rF p.now D0 L k hk);obtain⟨g,cg,b8,hgl,hcs⟩:=HS.l.at hk;obtain⟨rfl,rfl⟩:a3=some ⟨g,0,none⟩/\e3=cg:=by cases b8;exact⟨rfl,rfl⟩
    have aF:=hid (HS.l.2 L[k] (List.getElem_mem hk));have dn:0<=L[k].1.due/\L[k].1.due<=1000100:=e7.o L[k].1 (by rw[<-d9.o];exact List.mem_map_of_mem (List.mem_filter.1 (show L[k]∈ek p.now M from by rw[<-HL.o];exact List.getElem_mem hk)).1);obtain⟨x,hx⟩:∃x,x=L[k]:=⟨_,rfl⟩;rw[<-hx]at hcs aF b4 b5 dn;obtain⟨er,es⟩:=dn;clear hx b8;have b9:=hid (ph hcs);clear hcs
    go_wp2_with (refine wpList_load_mid rfl 46 _ rfl g (k*16) rfl (cQ x) _ b9.o Tryz.underlying46 rfl dA ?_;(try dsimp only[cQ,aU]))
    have bn:(D0++eo p.now D0 (L.take k)).length<=200000000:=by rw[List.length_append];have:(eo p.now D0 (L.take k)).length<=(L.take k).length:=List.length_filter_le _ _;rw[List.length_take]at this;omega
    have eu:=hid (show((fk p.now D0 (L.take k)).map (·.1)).length<=100000000 from by rw[List.length_map];exact Nat.le_trans (List.length_filter_le _ _) (by rw[List.length_take];omega));have dT:=hid (fun(e:t1.D wr.heap.size)=>Nat.lt_irrefl _ (HS.st.pa.inD _ e).1);have c1:=HS.st.size;clear b9;change Code.wp _ _ _ _ (wr.alloc (.cells (cQ x).toArray 46));have ax:=(Below.refl wr.heap.size wr).alloc (Nat.le_refl _) (.cells (cQ x).toArray 46);have HF:=hid (aO.new wr x);have cL:=hid (fun kk (e:_=some kk)=>Nat.ne_of_lt (HS.d.lt kk e).2);replace HS:=hid (HS.bel ax);replace aF:=hid (aF.keep ax.size (aE.below ax));clear ax;generalize hF:wr.heap.size=F at HF cL dT c1|-;generalize wr.alloc (.cells (cQ x).toArray 46)=w1 at *;clear hF
    go_upto_region 16 with fail
    go_cut [81]from 64 to 80 (fun v81 wx=>v81= .bool (Pr.lateB p.now (D0.map (·.1)) x.1)/\Dl N t w t1 { p with wire:=(fk p.now D0 (L.take k)).map (·.1) } (D0++eo p.now D0 (L.take k)) L (.slice a4 n2 e4) (.slice (some ⟨g,0,none⟩) L.length e3) mb ba bb wx/\aO F x wx/\bA wx x.2.1 x.1.s.bl)
    case first =>
     by_cases hh:x.1.held=true
     ·obtain⟨a0,a7⟩ | ⟨a0,a7⟩:=mB x.1.dst
      focus
       by_cases hmb:ba=true
       ·have a5:Pr.lateB p.now (D0.map (·.1)) x.1=true:=by unfold Pr.lateB;rw[hh,a0,<-cY.o,hmb];rfl
        refine bJ (fun W:World=>W.cell? ⟨F,2,none⟩=some (.bool true)/\W.cell? ⟨F,0,none⟩=some (.int .i64 0)/\W.cell? ⟨mb,0,none⟩=some (.bool true)) (⟨HF.cell 2 _ (by show some (Value.bool x.1.held)=_;rw[hh]),HF.cell 0 _ (by show some (Value.int .i64 (bI x.1.dst))=_;rw[a7]),(by have:=HS.cellM 0 _ rfl;rwa [hmb]at this)⟩) fun hZ=>?_;replace HS:=hid (HS.bel (Below.refl _ _).drew);replace HF:=hid (show aO F x w1.drew from HF.o);replace aF:=hid (aF.keep (Below.refl w1.heap.size w1).drew.size (aE.below (Below.refl w1.heap.size w1).drew));generalize w1.drew=w2 at *;refine aC 0 1 2 3 ?_;refine aC 4 5 6 7 ?_;refine aX 8 ?_;refine aX 9 ?_;refine aX 10 ?_;refine aX 11 ?_;refine aX 12 ?_;refine aX 13 ?_;refine aX 14 ?_;refine aX 15 ?_;refine aK 16 17 ?_;refine bE ?_ _;clear hZ;clear hh a7 a0 hmb;go_wp2_with fail
        go_meet
        case rel=>exact⟨by rw[a5],HS.o,HF.o,aF.o⟩
       replace hmb:ba=false:=by simpa using hmb
       by_cases hdu:x.1.due+30<=p.now
       ·have a5:Pr.lateB p.now (D0.map (·.1)) x.1=true:=by unfold Pr.lateB;rw[hh,a0,<-cY.o,hmb];show decide (x.1.due+30<=p.now)=true;simp[hdu]
        refine bJ (fun W:World=>W.cell? ⟨F,2,none⟩=some (.bool true)/\W.cell? ⟨F,0,none⟩=some (.int .i64 0)/\W.cell? ⟨mb,0,none⟩=some (.bool false)/\W.cell? ⟨F,1,none⟩=some (.int .i64 x.1.due)/\W.cell? ⟨t.B,13,none⟩=some (.int .i64 p.now)) (⟨HF.cell 2 _ (by show some (Value.bool x.1.held)=_;rw[hh]),HF.cell 0 _ (by show some (Value.int .i64 (bI x.1.dst))=_;rw[a7]),(by have:=HS.cellM 0 _ rfl;rwa [hmb]at this),HF.cell 1 _ rfl,HS.st.cell 13 (.int .i64 p.now) rfl⟩) fun hZ=>?_;replace HS:=hid (HS.bel (Below.refl _ _).drew);replace HF:=hid (show aO F x w1.drew from HF.o);replace aF:=hid (aF.keep (Below.refl w1.heap.size w1).drew.size (aE.below (Below.refl w1.heap.size w1).drew));generalize w1.drew=w2 at *;refine aC 0 1 2 3 ?_;refine aC 4 5 6 7 ?_;refine aK 8 9 ?_;refine aP 10 (v:=.int .i64 (x.1.due+30)) ?_ (hy:=by intro w hSw;(obtain⟨z0,z1,z2,z3,z4⟩:=hSw);go_simp;(rw[IntWalk.i64_in (x.1.due+30) (by omega)]));refine aC 11 12 13 14 ?_;refine aP 15 (v:=.bool true) ?_ (hy:=by intro w hSw;(obtain⟨z0,z1,z2,z3,z4⟩:=hSw);go_simp;(try first | omega | (rw[decide_eq_true_iff];omega)));refine aK 16 17 ?_;refine bE ?_ _;clear hZ;clear hh a7 a0 hmb hdu;go_wp2_with fail
        go_meet
        case rel=>exact⟨by rw[a5],HS.o,HF.o,aF.o⟩
       have a5:Pr.lateB p.now (D0.map (·.1)) x.1=false:=by unfold Pr.lateB;rw[hh,a0,<-cY.o,hmb];show decide (x.1.due+30<=p.now)=false;simp[hdu]
       refine bJ (fun W:World=>W.cell? ⟨F,2,none⟩=some (.bool true)/\W.cell? ⟨F,0,none⟩=some (.int .i64 0)/\W.cell? ⟨mb,0,none⟩=some (.bool false)/\W.cell? ⟨F,1,none⟩=some (.int .i64 x.1.due)/\W.cell? ⟨t.B,13,none⟩=some (.int .i64 p.now)) (⟨HF.cell 2 _ (by show some (Value.bool x.1.held)=_;rw[hh]),HF.cell 0 _ (by show some (Value.int .i64 (bI x.1.dst))=_;rw[a7]),(by have:=HS.cellM 0 _ rfl;rwa [hmb]at this),HF.cell 1 _ rfl,HS.st.cell 13 (.int .i64 p.now) rfl⟩) fun hZ=>?_
      rotate_left 1
      focus
       by_cases hmb:bb=true
       ·have a5:Pr.lateB p.now (D0.map (·.1)) x.1=true:=by unfold Pr.lateB;rw[hh,a0,<-c0.o,hmb];rfl
        refine bJ (fun W:World=>W.cell? ⟨F,2,none⟩=some (.bool true)/\W.cell? ⟨F,0,none⟩=some (.int .i64 1)/\W.cell? ⟨mb,1,none⟩=some (.bool true)) (⟨HF.cell 2 _ (by show some (Value.bool x.1.held)=_;rw[hh]),HF.cell 0 _ (by show some (Value.int .i64 (bI x.1.dst))=_;rw[a7]),(by have:=HS.cellM 1 _ rfl;rwa [hmb]at this)⟩) fun hZ=>?_;replace HS:=hid (HS.bel (Below.refl _ _).drew);replace HF:=hid (show aO F x w1.drew from HF.o);replace aF:=hid (aF.keep (Below.refl w1.heap.size w1).drew.size (aE.below (Below.refl w1.heap.size w1).drew));generalize w1.drew=w2 at *;refine aC 0 1 2 3 ?_;refine aC 4 5 6 7 ?_;refine aX 8 ?_;refine aX 9 ?_;refine aX 10 ?_;refine aX 11 ?_;refine aX 12 ?_;refine aX 13 ?_;refine aX 14 ?_;refine aX 15 ?_;refine aK 16 17 ?_;refine bE ?_ _;clear hZ;clear hh a7 a0 hmb;go_wp2_with fail
        go_meet
        case rel=>exact⟨by rw[a5],HS.o,HF.o,aF.o⟩
       replace hmb:bb=false:=by simpa using hmb
       by_cases hdu:x.1.due+30<=p.now
       ·have a5:Pr.lateB p.now (D0.map (·.1)) x.1=true:=by unfold Pr.lateB;rw[hh,a0,<-c0.o,hmb];show decide (x.1.due+30<=p.now)=true;simp[hdu]
        refine bJ (fun W:World=>W.cell? ⟨F,2,none⟩=some (.bool true)/\W.cell? ⟨F,0,none⟩=some (.int .i64 1)/\W.cell? ⟨mb,1,none⟩=some (.bool false)/\W.cell? ⟨F,1,none⟩=some (.int .i64 x.1.due)/\W.cell? ⟨t.B,13,none⟩=some (.int .i64 p.now)) (⟨HF.cell 2 _ (by show some (Value.bool x.1.held)=_;rw[hh]),HF.cell 0 _ (by show some (Value.int .i64 (bI x.1.dst))=_;rw[a7]),(by have:=HS.cellM 1 _ rfl;rwa [hmb]at this),HF.cell 1 _ rfl,HS.st.cell 13 (.int .i64 p.now) rfl⟩) fun hZ=>?_;replace HS:=hid (HS.bel (Below.refl _ _).drew);replace HF:=hid (show aO F x w1.drew from HF.o);replace aF:=hid (aF.keep (Below.refl w1.heap.size w1).drew.size (aE.below (Below.refl w1.heap.size w1).drew));generalize w1.drew=w2 at *;refine aC 0 1 2 3 ?_;refine aC 4 5 6 7 ?_;refine aK 8 9 ?_;refine aP 10 (v:=.int .i64 (x.1.due+30)) ?_ (hy:=by intro w hSw;(obtain⟨z0,z1,z2,z3,z4⟩:=hSw);go_simp;(rw[IntWalk.i64_in (x.1.due+30) (by omega)]));refine aC 11 12 13 14 ?_;refine aP 15 (v:=.bool true) ?_ (hy:=by intro w hSw;(obtain⟨z0,z1,z2,z3,z4⟩:=hSw);go_simp;(try first | omega | (rw[decide_eq_true_iff];omega)));refine aK 16 17 ?_;refine bE ?_ _;clear hZ;clear hh a7 a0 hmb hdu;go_wp2_with fail
        go_meet
        case rel=>exact⟨by rw[a5],HS.o,HF.o,aF.o⟩
       have a5:Pr.lateB p.now (D0.map (·.1)) x.1=false:=by unfold Pr.lateB;rw[hh,a0,<-c0.o,hmb];show decide (x.1.due+30<=p.now)=false;simp[hdu]
       refine bJ (fun W:World=>W.cell? ⟨F,2,none⟩=some (.bool true)/\W.cell? ⟨F,0,none⟩=some (.int .i64 1)/\W.cell? ⟨mb,1,none⟩=some (.bool false)/\W.cell? ⟨F,1,none⟩=some (.int .i64 x.1.due)/\W.cell? ⟨t.B,13,none⟩=some (.int .i64 p.now)) (⟨HF.cell 2 _ (by show some (Value.bool x.1.held)=_;rw[hh]),HF.cell 0 _ (by show some (Value.int .i64 (bI x.1.dst))=_;rw[a7]),(by have:=HS.cellM 1 _ rfl;rwa [hmb]at this),HF.cell 1 _ rfl,HS.st.cell 13 (.int .i64 p.now) rfl⟩) fun hZ=>?_
      all_goals
       replace HS:=hid (HS.bel (Below.refl _ _).drew);replace HF:=hid (show aO F x w1.drew from HF.o);replace aF:=hid (aF.keep (Below.refl w1.heap.size w1).drew.size (aE.below (Below.refl w1.heap.size w1).drew));generalize w1.drew=w2 at *;refine aC 0 1 2 3 ?_;refine aC 4 5 6 7 ?_;refine aK 8 9 ?_;refine aP 10 (v:=.int .i64 (x.1.due+30)) ?_ (hy:=by intro w hSw;(obtain⟨z0,z1,z2,z3,z4⟩:=hSw);go_simp;(rw[IntWalk.i64_in (x.1.due+30) (by omega)]));refine aC 11 12 13 14 ?_;refine aP 15 (v:=.bool false) ?_ (hy:=by intro w hSw;(obtain⟨z0,z1,z2,z3,z4⟩:=hSw);go_simp;(try first | omega | (rw[decide_eq_false_iff_not];omega)));refine aK 16 17 ?_;refine bE ?_ _;clear hZ;clear hh a7 a0 hmb hdu;go_wp2_with fail
       go_meet
       case rel=>exact⟨by rw[a5],HS.o,HF.o,aF.o⟩
     replace hh:x.1.held=false:=by simpa using hh
     have a5:Pr.lateB p.now (D0.map (·.1)) x.1=false:=by unfold Pr.lateB;rw[hh];rfl
     refine bJ (fun W:World=>W.cell? ⟨F,2,none⟩=some (.bool false)) (HF.cell 2 _ (by show some (Value.bool x.1.held)=_;rw[hh])) fun hZ=>?_;replace HS:=hid (HS.bel (Below.refl _ _).drew);replace HF:=hid (show aO F x w1.drew from HF.o);replace aF:=hid (aF.keep (Below.refl w1.heap.size w1).drew.size (aE.below (Below.refl w1.heap.size w1).drew));generalize w1.drew=w2 at *;refine aK 0 1 ?_;refine aP 2 ?_;refine aX 3 ?_;refine aX 4 ?_;refine aX 5 ?_;refine aX 6 ?_;refine aX 7 ?_;refine aX 8 ?_;refine aX 9 ?_;refine aX 10 ?_;refine aX 11 ?_;refine aX 12 ?_;refine aX 13 ?_;refine aX 14 ?_;refine aX 15 ?_;refine aX 16 ?_;refine aP 17 ?_;refine bE ?_ _;clear hZ;clear hh;go_wp2_with fail
     go_meet
     case rel=>exact⟨by rw[a5],HS.o,HF.o,aF.o⟩
    case rest =>
     obtain⟨rfl,h1,h3,h4⟩:=hcut;clear HS HF aF;have HS:=hid h1;have HF:=hid h3;have aF:=hid h4;clear h1 h3 h4;obtain⟨b,a5⟩:∃b,Pr.lateB p.now (D0.map (·.1)) x.1=b:=⟨_,rfl⟩;rw[a5]at b4 b5|-;clear a5
     cases b
     ·have b0:=hid b4.o;have b1:=hid b5.o;have HP:=hid (HS.pst HF.o aF.o c1 dT.o);have HD:=hid HS.o;clear HS HF aF dT;obtain⟨tc,htc⟩:∃tc,tc=t1:=⟨_,rfl⟩;rw[<-htc]at HP HD;clear htc
      go_upto_region 18 with fail
      refine bJ (aO F x) (HP.row) fun hZ=>?_;replace HP:=hid (HP.bel (Below.refl _ _).drew);replace HD:=hid (HD.bel (Below.refl _ _).drew);generalize hwd:World.drew _=w9 at HP HD hZ|-;clear hwd;have cS:w9.cell? ⟨t.B,12,none⟩=some tc.vW:=HP.st.cell 12 _ rfl;have hb:=(Below.refl w9.heap.size w9).alloc (Nat.le_refl _) (.cells (bL ([x]:List bD)).toArray 46);have c2:t.B<w9.heap.size:=by rw[<-HP.st.eB];exact HP.st.pa.lt
      have ev:=(World.cell?_of_block (a:=⟨t.B,12,none⟩) (hb.block t.B c2)).trans cS;refine aC 0 1 2 3 ?_;refine sU 5 (cQ x) (fun _ h=>aO.range h) Tryz.underlying46 dA ?_ (ha:=by((try simp only[Act.put,List.setIfInBounds_toArray,List.set_cons_zero,List.set_cons_succ,cQ,aU]);(try rfl)));refine wpAnyH_ready (rs:=[4,6]) (by kernel_rfl) (by simp) ?_;refine AllReadyH.cons (by simp only[List.getElem?_toArray,List.getElem?_cons_succ,List.getElem?_cons_zero];rfl) (fun Kq hKq=> ?_) (AllReadyH.cons (by simp only[List.getElem?_toArray,List.getElem?_cons_succ,List.getElem?_cons_zero];rfl) (fun Kq hKq=> ?_) AllReadyH.nil)
      focus
       go_simp;refine hKq.out _ _ (hZ) ?_;clear hKq Kq hZ;refine fun hZ=>aV ?_;refine aY 6 fun Kq hKq=> ?_;go_simp;refine hKq.out _ _ ((aO.below HP.row hb)) ?_;clear hKq Kq hZ;refine fun hZ=>aV ?_
      rotate_left 1
      focus
       go_simp;refine hKq.out _ _ ((aO.below HP.row hb)) ?_;clear hKq Kq hZ;refine fun hZ=>aV ?_;refine aY 4 fun Kq hKq=> ?_;go_simp;refine hKq.out _ _ (hZ) ?_;clear hKq Kq hZ;refine fun hZ=>aV ?_
      all_goals
       as_aux_lemma =>
        have ak:=hid (HP.bel hb);have a6:=hid (fi (M:=[x]) (heap_alloc_new w9 (.cells (bL ([x]:List bD)).toArray 46)));obtain⟨LL,cX,hLo⟩:=ak.st.pa.wire;have d0:=hid cX;have ds:=hid hLo;have hlen:LL.length=((fk p.now D0 (L.take k)).map (·.1)).length:=by rw[<-List.length_map (f:=(·.1)),cX]
        clear cX hLo;have eL:=hid (show LL.length+1<=1000000000000 by rw[hlen];have:=eu.o;omega);clear hlen;have an:=hid (show ∀u∈([x]:List bD),bA (w9.alloc (.cells (bL ([x]:List bD)).toArray 46)) u.2.1 u.1.s.bl from fun u hu=>by rw[show u=x by simpa using hu];exact ak.bl);refine aY 7 fun Kq hKq=> ?_;refine bp rfl _ _ rfl N _ LL (by rfl) ds.o w9.heap.size 0 1 [x] (by rfl) a6.o an.o eL.o ak.st.pa.big ?_;intro v4 w10 ho4 hg4 hb4;obtain⟨a4,c4,hv4,-,-⟩:=ho4.val;obtain⟨n4,hn4⟩:∃n4,n4=(LL++[x]).length:=⟨_,rfl⟩;rw[<-hn4]at hv4;subst hv4;clear hn4;have HK:=hid (ak.grownW hg4);have d1:=hid (ak.wire _ (LL++[x]) hg4 ho4 (fun kk hkk=>by rcases hb4 with hb4 | ⟨k2,hb4,hb5⟩;exact .inl (by rw[<-hb4];exact hkk);exact .inr (by rw[hb4]at hkk;cases hkk;exact hb5)));have c3:=(HD.bel hb).pair (ak.st.pa.setW _ (LL++[x]) hg4 ho4 (fun kk hkk=>by rcases hb4 with hb4 | ⟨k2,hb4,hb5⟩;exact .inl (by rw[<-hb4];exact hkk);exact .inr (by rw[hb4]at hkk;cases hkk;exact hb5)));rw[ak.st.eB]at c3;replace c3:=hid c3;have cT:w10.cell? ⟨t.B,12,none⟩=some tc.vW:=(World.cell?_of_block (a:=⟨t.B,12,none⟩) HK.1).trans (ak.st.cell 12 _ rfl);have gT:w10.frozen? ⟨t.B,12,none⟩=false:=by have hk:=HK.1;rw[<-ak.st.eB]at hk|-;exact frozen_of_row _ _ _ _ _ (hk.trans ak.st.pa.blk)
        have c5:aO F x w10:=HK.2.trans ak.row;clear ho4 hg4 hb4;refine hKq.out _ _ (c5) ?_;clear hKq Kq hZ;refine fun hZ=>aV ?_;refine aK 8 9 ?_;refine aY 10 fun Kq hKq=> ?_;go_simp;refine hKq.out _ _ (d1.row) ?_;clear hKq Kq hZ;refine fun hZ=>aV ?_;refine bE ?_ _;clear hZ cT gT c5 cS ev hb c2;replace HP:=hid (d1.eqQ (q':=({ p with wire:=(fk p.now D0 (L.take k)++[x]).map (·.1) }:Pr)) (by rw[List.map_append,List.map_append,d0.o]));replace HD:=hid (c3.eqQ (q':=({ p with wire:=(fk p.now D0 (L.take k)++[x]).map (·.1) }:Pr)) (by rw[List.map_append,List.map_append,d0.o]));clear c3;clear d1 HK ak a6 ds eL an d0;go_wp2_with fail
        go_roundg (gk-1)
        case measure=>omega
        case rel=>exact⟨k+1,_,by first | rfl | go_num | (have e:wrap64 ((k:Int)+1)=((k+1:Nat):Int):=(by unfold wrap64;omega);rw[e]),by omega,by rw[b0.o,b1.o,if_neg Bool.false_ne_true,if_neg Bool.false_ne_true];exact HD.o⟩
     have b0:=b4.o;have b1:=b5.o;rw[if_pos rfl]at b0 b1;have bc:=hid (aO.range HF.o);have aa:=(Below.refl wc.heap.size wc).alloc (Nat.le_refl _) (.cells (cQ x).toArray 46);have a6:=hid (qy (heap_alloc_new wc (.cells (cQ x).toArray 46)));replace HS:=hid (HS.bel aa);have an:=hid (show ∀u∈([x]:List bD),bA (wc.alloc (.cells (cQ x).toArray 46)) u.2.1 u.1.s.bl from fun u hu=>by rw[List.mem_singleton.1 hu];exact aF.keep aa.size (aE.below aa));have av:=hid (HF.below aa);have hll:(D0++eo p.now D0 (L.take k)).length+([x]:List bD).length<=1000000000000:=by have:=bn;show _+1<=_;omega
     go_wp2_with (first | (at_builtin;refine dW _ rfl _ _ rfl N _ (D0++eo p.now D0 (L.take k)) rfl HS.d wc.heap.size 0 1 [x] rfl a6.o an.o hll HS.st.pa.big ?_) | (refine wpList_load_mid rfl 46 _ rfl F 0 rfl (cQ x) _ bc.o Tryz.underlying46 rfl dA ?_;(try dsimp only[cQ,aU])))
     intro v4 w4 ho hg hb;clear hll a6 an aa bc;replace HF:=hid (show aO F x w4 from(hg.block F av.lt (fun e=>cL.o F e.symm rfl)).trans av.o);have bd:=hid (HS.app2 (x:=x) (by first | exact ho | (rw[List.append_assoc];exact ho)) hg (hb.imp id fun⟨kk,h1,h2⟩=>⟨kk,h1,by show(wc.heap.push _).size<=kk;rw[Array.size_push];exact h2⟩));clear av ho hg hb HS;have HS:=bd;clear bd;go_wp2_with fail
     go_roundg (gk-1)
     case measure=>omega
     case rel=>exact⟨k+1,t1,by first | rfl | go_num | (have e:wrap64 ((k:Int)+1)=((k+1:Nat):Int):=(by unfold wrap64;omega);rw[e]),by omega,by rw[b0,b1,<-List.append_assoc];exact HS.o⟩
   have hge:k=L.length:=by omega
   subst hge;rw[List.take_length]at HS;obtain⟨DD,hDD⟩:∃DD,DD=D0++eo p.now D0 L:=⟨_,rfl⟩;rw[<-hDD]at HS;have eS:=hid hDD;clear hDD;obtain⟨_,_,hvv⟩:=HS.d.val'
   cases hvv
   have ey:DD.length<=200000000:=by rw[eS.o,List.length_append];have:(eo p.now D0 L).length<=L.length:=List.length_filter_le _ _;omega
   have cb:=hid (zx d9.o dI.out HL.o eS.o);obtain⟨q1,hq1⟩:∃q1:Pr,q1={ p with wire:=(fk p.now D0 L).map (·.1) }:=⟨_,rfl⟩;rw[<-hq1]at HS;have d2:=hid hq1;clear hq1;have f1:=hid (Pr.rest_fit HK.o);have f3:=HK.wlen;have cf:=hid (show q1={ p with wire:=p.rest }from by rw[d2.out,cb.2]);go_wp2_with fail
   go_loopg [9] DD.length (fun g iv wr=>∃(k:Nat) (t2:Ft),iv= .int .i64 (k:Int)/\g+k=DD.length/\Dl N t w t2 (((DD.take k).map (·.1)).foldl Pr.recv1 q1) DD L (.slice a4 DD.length e4) (.slice a3 L.length e3) mb ba bb wr)
   case atStart=>exact⟨0,_,rfl,by omega,HS.o⟩
   case round =>
    obtain⟨k,t2,rfl,cn,hst⟩:=hrel;clear HS;have HS:=hid hst;clear hst;by_cases hk:k<DD.length
    ·have dc:(k:Int)<(DD.length:Int):=by omega
     have b6:=hid (tn DD k hk q1);obtain⟨g,cg,b8,hgl,hcs⟩:=HS.d.at hk;obtain⟨rfl,rfl⟩:a4=some ⟨g,0,none⟩/\e4=cg:=by cases b8;exact⟨rfl,rfl⟩
     have f4:=hid (HS.nd g rfl).1;have aF:=hid (HS.d.2 DD[k] (List.getElem_mem hk));have e0:=hid (show DD[k].1∈p.due from by rw[<-cb.1];exact List.mem_map_of_mem (List.getElem_mem hk));have c6:((DD.take k).map (·.1)).length=k:=by rw[List.length_map,List.length_take];omega
     have ac:=hid (Pr.fold_fit ((DD.take k).map (·.1)) (p:=q1) (by rw[cf.o];exact f1.o) (fun f hf=>by obtain⟨y,hy,rfl⟩:=List.mem_map.1 hf;exact HK.wire _ (Pr.due_mem (by rw[<-cb.1];exact List.mem_map_of_mem (List.mem_of_mem_take hy)))));have e5:=hid (Pr.Ml.fold ((DD.take k).map (·.1)) (show q1.Ml from by rw[cf.o];exact HM.o));have a6:=hid ((Pr.fold_now ((DD.take k).map (·.1)) q1).1.trans (by rw[cf.o]));rw[c6]at ac;clear c6;generalize ((DD.take k).map (·.1)).foldl Pr.recv1 q1=qk at HS b6 ac e5 a6;obtain⟨x,hx⟩:∃x,x=DD[k]:=⟨_,rfl⟩;rw[<-hx]at hcs aF e0 b6;clear hx b8;have d3:=hid (HK.wire x.1 (Pr.due_mem e0.o));have a9:=hid (yd ac.o e5.o d3.o (by omega) (by omega));have b9:=hid (wV hcs);have hd0:wr.cell? ⟨g,k*16,none⟩=some (.int .i64 (bI x.1.dst)):=hcs 0 (by decide) _ rfl;clear hcs;have ad:=hid HK.in64;obtain⟨a0,a7⟩ | ⟨a0,a7⟩:=mB x.1.dst
     focus
      rw[a7]at hd0;have bu:=HS.st.cell 0 (.pointer (some ⟨t2.fa.C,0,none⟩)) rfl;have a9:=hid (show(qk.setC false (qk.a.c.receive qk.now x.1.s).1).log.length+(qk.a.c.receive qk.now x.1.s).2.length<=500000000000/\(qk.setC false (qk.a.c.receive qk.now x.1.s).1).wire.length+2*(qk.a.c.receive qk.now x.1.s).2.length<=500000000000/\(qk.setC false (qk.a.c.receive qk.now x.1.s).1).many+(qk.a.c.receive qk.now x.1.s).2.length<=1000000000000 from by have:=a9.o;rw[a0]at this;exact this);have b3:=hid (show qk.recv1 x.1=(qk.setC false (qk.a.c.receive qk.now x.1.s).1).put false (qk.a.c.receive qk.now x.1.s).2 from by unfold Pr.recv1;rw[a0];rfl);rw[a6.o]at a9 b3;go_wp2_with fail;clear bu hd0;refine bJ (fun W:World=>W.cell? ⟨t.B,0,none⟩=some (.pointer (some ⟨t2.fa.C,0,none⟩))/\W.cell? ⟨t.B,13,none⟩=some (.int .i64 p.now)/\W.rangeAt g (k*16+3) (aU (x.1.s,x.2.1,x.2.2))) (⟨HS.st.cell 0 (.pointer (some ⟨t2.fa.C,0,none⟩)) rfl,by rw[<-a6.o];exact HS.st.cell 13 (.int .i64 qk.now) rfl,b9.o⟩) fun hZ=>?_;replace HS:=hid (HS.bel (Below.refl _ _).drew);replace aF:=hid (aF.keep (Below.refl wr.heap.size wr).drew.size (aE.below (Below.refl wr.heap.size wr).drew));generalize wr.drew=w3 at HS aF hZ|-;refine aC 0 1 2 3 ?_;refine aC 4 5 6 7 ?_;refine aC 8 9 10 11 ?_;refine aC 12 13 14 15 ?_;refine aP 16 ?_;refine sU 17 (aU (x.1.s,x.2.1,x.2.2)) (fun _ h=>h.2.2) Tryz.underlying43 jk ?_ (ha:=by((try simp only[Act.put,List.setIfInBounds_toArray,List.set_cons_zero,List.set_cons_succ,aU]);(try rfl)));refine aY 18 fun Kq hKq=> ?_;go_simp;refine(jo t2.fa qk.a.c p.now x.1.s x.2.1 x.2.2 _ HS.st.pa.a ac.a.c ad.o d3.o aF.o).mono ?_;rintro e w4⟨v,gg,rfl,hl,hc,hch,hgg⟩;have k4:=HS.st.pa.onC false gg _ hc hch hgg;have bv:=k4.fr.block g (HS.d.lt g rfl).2 (HS.nd g rfl).1;replace HS:=hid (HS.pair k4);have bx:=hid hl;clear hl hc hch hgg k4;go_simp;refine hKq.out _ _ (⟨HS.st.cell 0 (.pointer (some ⟨t2.fa.C,0,none⟩)) rfl,by rw[<-a6.o];exact HS.st.cell 13 (.int .i64 qk.now) rfl,fun j u hj=>(World.cell?_of_block (a:=⟨g,k*16+3+j,none⟩) bv).trans (hZ.2.2 j u hj)⟩) ?_;clear hKq Kq hZ;refine fun hZ=>aV ?_;have a1:=cc N _ _ false _ v _ _ HS.st.pa bx.o a9.1 a9.2.1 a9.2.2 (by show 0<=qk.now/\qk.now<=1000000;rw[a6.o];exact⟨al,am⟩);rw[HS.st.eB,show bI false=0 from rfl]at a1;replace a1:=hid a1;refine aY 19 fun Kq hKq=> ?_;go_simp;refine(a1.o).mono ?_;rintro e w5⟨rfl,t5,k5⟩;have cC:=k5.fr.block g (HS.d.lt g rfl).2 (HS.nd g rfl).1;have cF:=k5.eC.1;replace HS:=hid (HS.pair k5);clear k5;go_simp;refine hKq.out _ _ (⟨(HS.st.cell 0 (.pointer (some ⟨t5.fa.C,0,none⟩)) rfl).trans (by rw[cF];rfl),(HS.st.cell 13 _ rfl).trans (congrArg (fun z=>some (Value.int .i64 z)) ((eE _ _ _).2.2.1.trans a6.o)),fun j u hj=>(World.cell?_of_block (a:=⟨g,k*16+3+j,none⟩) cC).trans (hZ.2.2 j u hj)⟩) (fun ab=> ?_)
     rotate_left 1
     focus
      rw[a7]at hd0;have bu:=HS.st.cell 6 (.pointer (some ⟨t2.fb.C,0,none⟩)) rfl;have a9:=hid (show(qk.setC true (qk.b.c.receive qk.now x.1.s).1).log.length+(qk.b.c.receive qk.now x.1.s).2.length<=500000000000/\(qk.setC true (qk.b.c.receive qk.now x.1.s).1).wire.length+2*(qk.b.c.receive qk.now x.1.s).2.length<=500000000000/\(qk.setC true (qk.b.c.receive qk.now x.1.s).1).many+(qk.b.c.receive qk.now x.1.s).2.length<=1000000000000 from by have:=a9.o;rw[a0]at this;exact this);have b3:=hid (show qk.recv1 x.1=(qk.setC true (qk.b.c.receive qk.now x.1.s).1).put true (qk.b.c.receive qk.now x.1.s).2 from by unfold Pr.recv1;rw[a0];rfl);rw[a6.o]at a9 b3;go_wp2_with fail;clear bu hd0;refine bJ (fun W:World=>W.cell? ⟨t.B,6,none⟩=some (.pointer (some ⟨t2.fb.C,0,none⟩))/\W.cell? ⟨t.B,13,none⟩=some (.int .i64 p.now)/\W.rangeAt g (k*16+3) (aU (x.1.s,x.2.1,x.2.2))) (⟨HS.st.cell 6 (.pointer (some ⟨t2.fb.C,0,none⟩)) rfl,by rw[<-a6.o];exact HS.st.cell 13 (.int .i64 qk.now) rfl,b9.o⟩) fun hZ=>?_;replace HS:=hid (HS.bel (Below.refl _ _).drew);replace aF:=hid (aF.keep (Below.refl wr.heap.size wr).drew.size (aE.below (Below.refl wr.heap.size wr).drew));generalize wr.drew=w3 at HS aF hZ|-;refine aC 0 1 2 3 ?_;refine aC 4 5 6 7 ?_;refine aC 8 9 10 11 ?_;refine aC 12 13 14 15 ?_;refine aP 16 ?_;refine sU 17 (aU (x.1.s,x.2.1,x.2.2)) (fun _ h=>h.2.2) Tryz.underlying43 jk ?_ (ha:=by((try simp only[Act.put,List.setIfInBounds_toArray,List.set_cons_zero,List.set_cons_succ,aU]);(try rfl)));refine aY 18 fun Kq hKq=> ?_;go_simp;refine(jo t2.fb qk.b.c p.now x.1.s x.2.1 x.2.2 _ HS.st.pa.b ac.b.c ad.o d3.o aF.o).mono ?_;rintro e w4⟨v,gg,rfl,hl,hc,hch,hgg⟩;have k4:=HS.st.pa.onC true gg _ hc hch hgg;have bv:=k4.fr.block g (HS.d.lt g rfl).2 (HS.nd g rfl).1;replace HS:=hid (HS.pair k4);have bx:=hid hl;clear hl hc hch hgg k4;go_simp;refine hKq.out _ _ (⟨HS.st.cell 6 (.pointer (some ⟨t2.fb.C,0,none⟩)) rfl,by rw[<-a6.o];exact HS.st.cell 13 (.int .i64 qk.now) rfl,fun j u hj=>(World.cell?_of_block (a:=⟨g,k*16+3+j,none⟩) bv).trans (hZ.2.2 j u hj)⟩) ?_;clear hKq Kq hZ;refine fun hZ=>aV ?_;have a1:=cc N _ _ true _ v _ _ HS.st.pa bx.o a9.1 a9.2.1 a9.2.2 (by show 0<=qk.now/\qk.now<=1000000;rw[a6.o];exact⟨al,am⟩);rw[HS.st.eB,show bI true=1 from rfl]at a1;replace a1:=hid a1;refine aY 19 fun Kq hKq=> ?_;go_simp;refine(a1.o).mono ?_;rintro e w5⟨rfl,t5,k5⟩;have cC:=k5.fr.block g (HS.d.lt g rfl).2 (HS.nd g rfl).1;have cF:=k5.eC.2.1;replace HS:=hid (HS.pair k5);clear k5;go_simp;refine hKq.out _ _ (⟨(HS.st.cell 6 (.pointer (some ⟨t5.fb.C,0,none⟩)) rfl).trans (by rw[cF];rfl),(HS.st.cell 13 _ rfl).trans (congrArg (fun z=>some (Value.int .i64 z)) ((eE _ _ _).2.2.1.trans a6.o)),fun j u hj=>(World.cell?_of_block (a:=⟨g,k*16+3+j,none⟩) cC).trans (hZ.2.2 j u hj)⟩) (fun ab=> ?_)
     all_goals
      clear hKq Kq hZ;refine aV ?_;have hZ:=ab;clear ab;refine bE ?_ _;clear hZ;go_wp2_with fail
      go_roundg (gk-1)
      case measure=>omega
      case rel=>exact⟨k+1,_,by first | rfl | go_num | (have e:wrap64 ((k:Int)+1)=((k+1:Nat):Int):=(by unfold wrap64;omega);rw[e]),by omega,by rw[b6.o,b3.o];exact HS.o⟩
    have hge:k=DD.length:=by omega
    subst hge;rw[List.take_length,cb.1,cf.o]at HS;go_wp2_with fail
    go_end0
    exact⟨rfl,t2,by rw[HR.o];exact HS.st⟩
end
section
set_option maxHeartbeats 8000000
set_option maxRecDepth 100000
open Go.RowKit Go.Shelf
theorem dr {X:Pr}{i:Bool}{l:List Sg}{q r:Int}(h:Pr.Fit (X.put i l) q r)(hw:X.wire.length<=400000000)(hm:X.Ml)(hr:r<=102000000000) :
  X.log.length+l.length<=500000000000/\X.wire.length+2*l.length<=500000000000/\X.many+l.length<=1000000000000:=by
 have h1:=h.llen;have h2:=(jl i l X).1;have h3:X.many=X.log.length:=hm;omega
theorem Pr.Ml.deliver {p:Pr}(h:p.Ml):p.deliver.Ml:=Pr.Ml.fold _ (show Pr.Ml { p with wire:=p.rest }from h)
theorem Pr.Ml.tick1 {p:Pr}(h:p.Ml)(i:Bool):(p.tick1 i).Ml:=Pr.Ml.put (h.setSd _ _) _ _
theorem Pr.Ml.tick {p:Pr}(h:p.Ml):p.tick.Ml:=((Pr.Ml.deliver (show Pr.Ml { p with now:=p.now+1 }from h)).tick1 false).tick1 true
def qO (p:Pr):Nat->Pr
 | 0=>p
 | 1=>p.tick1 false
 | _=>(p.tick1 false).tick1 true
theorem dm (N:Nat) (t:Ft) (p:Pr) (w:World) (q r:Int) (h:PrAt N t p w) (hk:Pr.Fit p q r) (hq:q<=90000000) (hr:r<=90000000000) (hm:p.Ml) (hn:p.now+1<=1000000) :
  Calls Tryz.prog 39 #[.pointer (some ⟨t.B,0,none⟩)] w (kE N t w p.tick):=by
 have be:=hk.now;obtain⟨al,am⟩:=be;have c7:=hid (h.set 13 (.int .i64 (p.now+1)) { p with now:=p.now+1 } rfl rfl rfl rfl rfl rfl);have c13:=h.cell 13 (.int .i64 p.now) rfl;have f2:=h.free 13;have ch:=hid (show Pr.Fit { p with now:=p.now+1 } q r from⟨hk.a,hk.b,⟨by dsimp only;omega,hn⟩,hk.wire,hk.due,hk.log,hk.q,hk.r⟩);obtain⟨p0,hp0⟩:∃p0:Pr,p0={ p with now:=p.now+1 }:=⟨_,rfl⟩;rw[<-hp0]at c7 ch;have d4:=hid (show p0.Ml from by rw[hp0];exact hm);have HR:=hid (show p.tick=qO p0.deliver 2 from by rw[hp0];rfl);have hn0:p0.now=p.now+1:=by rw[hp0]
 have e6:=hid hn0;clear hp0 h hk hm hn0
 go_enter Tryz.func39,Tryz.ntmps39
 go_wp2_with fail;clear c13 f2;generalize w.setCell ⟨t.B,13,none⟩ (.int .i64 (p.now+1))=w1 at c7|-;refine(oH N t p0 w1 q r c7.pa ch.o (by omega) (by omega) d4.o).mono ?_;rintro e w2⟨rfl,t1,k1⟩;have d5:=hid (c7.trans k1);clear k1 c7;have c8:=hid (Pr.deliver_fit ch.o);have d6:=hid d4.deliver;have d7:=hid (show p0.deliver.now=p.now+1 from((Pr.fold_now _ _).1).trans e6.o);obtain⟨pd,hpd⟩:∃pd,pd=p0.deliver:=⟨_,rfl⟩;rw[<-hpd]at d5 c8 d6 d7 HR;clear hpd ch d4 e6;go_wp2_with fail
 go_loopg [2] 2 (fun g iv wr=>∃(k:Nat) (t2:Ft),iv= .int .i64 (k:Int)/\g+k=2/\PrSt N t w t2 (qO pd k) wr)
 case atStart=>exact⟨0,t1,rfl,rfl,d5.o⟩
 case round =>
  obtain⟨k,t2,rfl,cn,hst⟩:=hrel;have HS:=hid hst;clear hst d5;have hk3:k=0\/k=1\/k=2:=by omega
  rcases hk3 with hk0 | hk1 | hk2
  ·subst hk0;have ac:=hid (show Pr.Fit (qO pd 0) _ _ from c8.o);have c9:=hid (show Pr.Fit ((qO pd 0).tick1 false) _ _ from Pr.tick1_fit c8.o false);have ca:=hid (show(qO pd 0).Ml from d6.o);have ag:=hid (show(qO pd 0).now=p.now+1 from d7.o);have b6:=hid (show qO pd 1=(qO pd 0).tick1 false from rfl);generalize qO pd 0=pk at HS ac c9 ca ag b6;have b3:=hid (show pk.tick1 false=(pk.setC false (pk.a.c.tick (p.now+1)).1).put false (pk.a.c.tick (p.now+1)).2 from by rw[<-ag.o];rfl);have hwk:=ac.wlen;have a9:=hid (dr (X:=pk.setC false (pk.a.c.tick (p.now+1)).1) (i:=false) (l:=(pk.a.c.tick (p.now+1)).2) (by rw[<-b3.o];exact c9.o) (by show pk.wire.length<=400000000;omega) (ca.setSd false _) (by omega));clear hwk;have ad:=hid (show aG (p.now+1)from by unfold aG;omega);have bu:=HS.cell 0 (.pointer (some ⟨t2.fa.C,0,none⟩)) rfl;go_wp2_with fail;clear bu;refine bJ (fun W:World=>W.cell? ⟨t.B,0,none⟩=some (.pointer (some ⟨t2.fa.C,0,none⟩))/\W.cell? ⟨t.B,13,none⟩=some (.int .i64 (p.now+1))) (⟨HS.cell 0 (.pointer (some ⟨t2.fa.C,0,none⟩)) rfl,by rw[<-ag.o];exact HS.cell 13 (.int .i64 pk.now) rfl⟩) fun hZ=>?_;replace HS:=hid (HS.bel (Below.refl _ _).drew);generalize wr.drew=w3 at HS hZ|-;refine aC 0 1 2 3 ?_;refine aC 4 5 6 7 ?_;refine aC 8 9 10 11 ?_;refine aP 12 ?_;refine aY 13 fun Kq hKq=> ?_;go_simp;refine(nA t2.fa pk.a.c (p.now+1) _ HS.pa.a ac.a.c ad.o).mono ?_;rintro e w4⟨v,rfl,hl,hc,hch⟩;have k4:=HS.pa.onC false t2.fa.G _ hc hch (.inl rfl);replace HS:=hid (HS.trans k4);have bx:=hid hl;clear hl hc hch k4;go_simp;refine hKq.out _ _ (⟨HS.cell 0 (.pointer (some ⟨t2.fa.C,0,none⟩)) rfl,by rw[<-ag.o];exact HS.cell 13 (.int .i64 pk.now) rfl⟩) ?_;clear hKq Kq hZ;refine fun hZ=>aV ?_;have a1:=cc N _ _ false _ v _ _ HS.pa bx.o a9.1 a9.2.1 a9.2.2 (by show 0<=pk.now/\pk.now<=1000000;rw[ag.o];omega);rw[HS.eB,show bI false=0 from rfl]at a1;replace a1:=hid a1;refine aY 14 fun Kq hKq=> ?_;go_simp;refine(a1.o).mono ?_;rintro e w5⟨rfl,t5,k5⟩;have cF:=k5.eC.1;replace HS:=hid (HS.trans k5);clear k5;go_simp;refine hKq.out _ _ (⟨(HS.cell 0 (.pointer (some ⟨t5.fa.C,0,none⟩)) rfl).trans (by rw[cF];rfl),(HS.cell 13 _ rfl).trans (congrArg (fun z=>some (Value.int .i64 z)) ((eE _ _ _).2.2.1.trans ag.o))⟩) ?_;clear hKq Kq hZ;refine fun hZ=>aV ?_;refine bE ?_ _;clear hZ;go_wp2_with fail
   go_roundg (gk-1)
   case measure=>omega
   case rel=>exact⟨1,_,by first | rfl | go_num,by omega,by rw[b6.o,b3.o];exact HS.o⟩
  ·subst hk1;have ac:=hid (show Pr.Fit (qO pd 1) _ _ from(Pr.tick1_fit c8.o false));have c9:=hid (show Pr.Fit ((qO pd 1).tick1 true) _ _ from Pr.tick1_fit (Pr.tick1_fit c8.o false) true);have ca:=hid (show(qO pd 1).Ml from d6.tick1 false);have ag:=hid (show(qO pd 1).now=p.now+1 from((eE _ _ _).2.2.1).trans d7.o);have b6:=hid (show qO pd 2=(qO pd 1).tick1 true from rfl);generalize qO pd 1=pk at HS ac c9 ca ag b6;have b3:=hid (show pk.tick1 true=(pk.setC true (pk.b.c.tick (p.now+1)).1).put true (pk.b.c.tick (p.now+1)).2 from by rw[<-ag.o];rfl);have hwk:=ac.wlen;have a9:=hid (dr (X:=pk.setC true (pk.b.c.tick (p.now+1)).1) (i:=true) (l:=(pk.b.c.tick (p.now+1)).2) (by rw[<-b3.o];exact c9.o) (by show pk.wire.length<=400000000;omega) (ca.setSd true _) (by omega));clear hwk;have ad:=hid (show aG (p.now+1)from by unfold aG;omega);have bu:=HS.cell 6 (.pointer (some ⟨t2.fb.C,0,none⟩)) rfl;go_wp2_with fail;clear bu;refine bJ (fun W:World=>W.cell? ⟨t.B,6,none⟩=some (.pointer (some ⟨t2.fb.C,0,none⟩))/\W.cell? ⟨t.B,13,none⟩=some (.int .i64 (p.now+1))) (⟨HS.cell 6 (.pointer (some ⟨t2.fb.C,0,none⟩)) rfl,by rw[<-ag.o];exact HS.cell 13 (.int .i64 pk.now) rfl⟩) fun hZ=>?_;replace HS:=hid (HS.bel (Below.refl _ _).drew);generalize wr.drew=w3 at HS hZ|-;refine aC 0 1 2 3 ?_;refine aC 4 5 6 7 ?_;refine aC 8 9 10 11 ?_;refine aP 12 ?_;refine aY 13 fun Kq hKq=> ?_;go_simp;refine(nA t2.fb pk.b.c (p.now+1) _ HS.pa.b ac.b.c ad.o).mono ?_;rintro e w4⟨v,rfl,hl,hc,hch⟩;have k4:=HS.pa.onC true t2.fb.G _ hc hch (.inl rfl);replace HS:=hid (HS.trans k4);have bx:=hid hl;clear hl hc hch k4;go_simp;refine hKq.out _ _ (⟨HS.cell 6 (.pointer (some ⟨t2.fb.C,0,none⟩)) rfl,by rw[<-ag.o];exact HS.cell 13 (.int .i64 pk.now) rfl⟩) ?_;clear hKq Kq hZ;refine fun hZ=>aV ?_;have a1:=cc N _ _ true _ v _ _ HS.pa bx.o a9.1 a9.2.1 a9.2.2 (by show 0<=pk.now/\pk.now<=1000000;rw[ag.o];omega);rw[HS.eB,show bI true=1 from rfl]at a1;replace a1:=hid a1;refine aY 14 fun Kq hKq=> ?_;go_simp;refine(a1.o).mono ?_;rintro e w5⟨rfl,t5,k5⟩;have cF:=k5.eC.2.1;replace HS:=hid (HS.trans k5);clear k5;go_simp;refine hKq.out _ _ (⟨(HS.cell 6 (.pointer (some ⟨t5.fb.C,0,none⟩)) rfl).trans (by rw[cF];rfl),(HS.cell 13 _ rfl).trans (congrArg (fun z=>some (Value.int .i64 z)) ((eE _ _ _).2.2.1.trans ag.o))⟩) ?_;clear hKq Kq hZ;refine fun hZ=>aV ?_;refine bE ?_ _;clear hZ;go_wp2_with fail
   go_roundg (gk-1)
   case measure=>omega
   case rel=>exact⟨2,_,by first | rfl | go_num,by omega,by rw[b6.o,b3.o];exact HS.o⟩
  subst hk2;go_wp2_with fail
  go_end0
  exact⟨rfl,t2,by rw[HR.o];exact HS.o⟩
end
end Go.Proofs.YtclkcmidhhfdmaaGreatDoor
