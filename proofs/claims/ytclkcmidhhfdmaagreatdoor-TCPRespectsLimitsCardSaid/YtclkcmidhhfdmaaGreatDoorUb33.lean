import Derived.Test.YtclkcmidhhfdmaaGreatDoorUb31
import Derived.Test.YtclkcmidhhfdmaaGreatDoorUb32
namespace Go.Proofs.YtclkcmidhhfdmaaGreatDoor
open Lib (hid)
section
set_option maxHeartbeats 8000000
set_option maxRecDepth 100000
open Go.RowKit Go.Shelf
def dueM (now:Int)(M:List FlM):List FlM:=M.filter fun x=>Pr.readyB now x.1
def leftM (now:Int)(M:List FlM):List FlM:=M.filter fun x=> !Pr.readyB now x.1
theorem take_snoc {α:Type}(M:List α)(k:Nat)(h:k<M.length):M.take (k+1)=M.take k++[M[k]]:=by rw[List.take_succ_eq_append_getElem h]
theorem dueM_snoc (now:Int)(M:List FlM)(k:Nat)(h:k<M.length):dueM now (M.take (k+1))=if Pr.readyB now M[k].1=true then dueM now (M.take k)++[M[k]]else dueM now (M.take k):=by
 unfold dueM;rw[take_snoc M k h,List.filter_append];by_cases hb:Pr.readyB now M[k].1=true <;> simp[hb]
theorem leftM_snoc (now:Int)(M:List FlM)(k:Nat)(h:k<M.length):leftM now (M.take (k+1))=if Pr.readyB now M[k].1=true then leftM now (M.take k)else leftM now (M.take k)++[M[k]]:=by
 unfold leftM;rw[take_snoc M k h,List.filter_append];by_cases hb:Pr.readyB now M[k].1=true <;> simp[hb]
def metM (l:List FlM)(d:Bool):Bool:=l.any fun f=>f.1.dst==d
theorem metM_snoc (l:List FlM)(x:FlM)(d:Bool):metM (l++[x]) d=(metM l d||x.1.dst==d):=by unfold metM;rw[List.any_append];simp
theorem bI_cases (b:Bool):(b=false/\bI b=0)\/(b=true/\bI b=1):=by cases b <;> simp[bI]
def lateM (now:Int)(D L:List FlM):List FlM:=L.filter fun x=>Pr.lateB now (D.map (·.1)) x.1
def restM (now:Int)(D L:List FlM):List FlM:=L.filter fun x=> !Pr.lateB now (D.map (·.1)) x.1
theorem lateM_snoc (now:Int)(D M:List FlM)(k:Nat)(h:k<M.length):lateM now D (M.take (k+1))=if Pr.lateB now (D.map (·.1)) M[k].1=true then lateM now D (M.take k)++[M[k]]else lateM now D (M.take k):=by
 unfold lateM;rw[take_snoc M k h,List.filter_append];by_cases hb:Pr.lateB now (D.map (·.1)) M[k].1=true <;> simp[hb]
theorem restM_snoc (now:Int)(D M:List FlM)(k:Nat)(h:k<M.length):restM now D (M.take (k+1))=if Pr.lateB now (D.map (·.1)) M[k].1=true then restM now D (M.take k)else restM now D (M.take k)++[M[k]]:=by
 unfold restM;rw[take_snoc M k h,List.filter_append];by_cases hb:Pr.lateB now (D.map (·.1)) M[k].1=true <;> simp[hb]
theorem due_eq {p:Pr}{M D0 L DD:List FlM}(h:M.map (·.1)=p.wire)(h1:D0=dueM p.now M)(h2:L=leftM p.now M)(h3:DD=D0++lateM p.now D0 L):DD.map (·.1)=p.due/\(restM p.now D0 L).map (·.1)=p.rest:=by
 have e1:D0.map (·.1)=Pr.due1 p.now p.wire:=by rw[h1,<-h];unfold dueM Pr.due1;rw[List.filter_map];rfl
 have e2:L.map (·.1)=Pr.left1 p.now p.wire:=by rw[h2,<-h];unfold leftM Pr.left1;rw[List.filter_map];rfl
 constructor
 ·rw[h3,List.map_append,e1];unfold Pr.due lateM;rw[e1,<-e2,List.filter_map];rfl
 unfold Pr.rest restM;rw[e1,<-e2,List.filter_map];rfl
theorem sg_range {w:World}{g k:Nat}{x:FlM}(h:∀j,j<16->∀u,(flL x)[j]? =some u->w.cell? ⟨g,k*16+j,none⟩=some u):w.rangeAt g (k*16+3) (sgL (x.1.s,x.2.1,x.2.2)):=fun j v hj=>by
 have h1:j<13:=by have:=(List.getElem?_eq_some_iff.1 hj).1;exact this
 have h2:(flL x)[3+j]? =some v:=by rw[Nat.add_comm];exact hj
 rw[Nat.add_assoc];exact h (3+j) (by omega) v h2
def Pr.Ml (p:Pr):Prop:=p.many=p.log.length
theorem Pr.Ml.put {p:Pr}(h:p.Ml)(i:Bool)(l:List Sg):(p.put i l).Ml:=by
 unfold Pr.Ml at h|-;rw[put_many,(put_lens i l p).1,h]
theorem Pr.Ml.setSd {p:Pr}(h:p.Ml)(i:Bool)(d:Sd):(p.setSd i d).Ml:=by cases i <;> exact h
theorem Pr.Ml.recv1 {p:Pr}(h:p.Ml)(f:Fl):(p.recv1 f).Ml:=Pr.Ml.put (h.setSd _ _) _ _
theorem Pr.Ml.fold:∀(l:List Fl) {p:Pr},p.Ml->(l.foldl Pr.recv1 p).Ml:=by
 intro l
 induction l with
 | nil=>exact fun h=>h
 | cons f l ih=>exact fun h=>ih (h.recv1 f)
theorem fold_snoc (DD:List FlM)(k:Nat)(h:k<DD.length)(q:Pr):((DD.take (k+1)).map (·.1)).foldl Pr.recv1 q=(((DD.take k).map (·.1)).foldl Pr.recv1 q).recv1 DD[k].1:=by
 rw[take_snoc DD k h,List.map_append,List.foldl_append];rfl
theorem put_bds {p:Pr}{q r:Int}(h:Pr.Fit p q r)(hm:p.Ml){f:Fl}(hf:f.s.Ok)(hq:q<=400000000)(hr:r<=101000000000) :
  let d:=(p.sd f.dst).c.receive p.now f.s
  (p.setC f.dst d.1).log.length+d.2.length<=500000000000/\(p.setC f.dst d.1).wire.length+2*d.2.length<=500000000000/\(p.setC f.dst d.1).many+d.2.length<=1000000000000:=by
 intro d;have h1:=(Pr.recv1_fit h hf).llen;have h2:(p.recv1 f).log.length=(p.setC f.dst d.1).log.length+d.2.length:=(put_lens f.dst d.2 _).1;have h3:=h.wlen;have h4:(p.setC f.dst d.1).wire=p.wire:=by cases f.dst <;> rfl
 have h5:(p.setC f.dst d.1).many=p.many:=by cases f.dst <;> rfl
 have h6:(p.setC f.dst d.1).log=p.log:=by cases f.dst <;> rfl
 have h7:p.many=p.log.length:=hm;rw[h6]at h2|-;rw[h4,h5];omega
theorem metM_eq (D:List FlM)(d:Bool):metM D d=Pr.metB (D.map (·.1)) d:=by unfold metM Pr.metB;rw[List.any_map];rfl
theorem tdeliver_any (N:Nat) (t:Ft) (p:Pr) (w:World) (q r:Int) (h:PrAt N t p w) (hk:Pr.Fit p q r) (hq:q<=100000000) (hr:r<=100000000000) (hm:p.many=p.log.length) :
  Calls Tryz.prog 77 #[.pointer (some ⟨t.B,0,none⟩)] w (PutOut N t w p.deliver):=by
 have HPA:=hid h;have HK:=hid hk;have HM:=hid hm;have HDU:=hid hk.due;have hnow:=hk.now;have hwl:=hk.wlen;obtain⟨hnow0,hnow1⟩:=hnow;obtain⟨M,hM,hMo⟩:=h.wire;have HWM:=hid hM;have HMO:=hid hMo;have hMl:M.length=p.wire.length:=by rw[<-hM,List.length_map]
 have hMl2:(M.length:Int)<=100000000:=by omega
 clear hMl hwl;obtain⟨a,cap,hv⟩:=hMo.val';have HV:=hid hv;have hbg:=h.big;have hlt:=h.lt;obtain⟨R,hR⟩:∃R,R=p.deliver:=⟨_,rfl⟩;rw[<-hR];have HR:=hid hR;clear hR hM hMo hv hk hm h
 go_enter Tryz.func77,Tryz.ntmps77
 have c12:w.cell? ⟨t.B,12,none⟩=some (.slice a M.length cap):=by have:=HPA.cell 12 t.vW rfl;rwa [HV.o]at this
 go_wp2_with fail;obtain⟨mb,hmb⟩:∃mb,mb=w.heap.size:=⟨_,rfl⟩;have HD0:=hid (show Dl N t w t p [] [] (.slice none 0 0) (.slice none 0 0) mb false false (w.alloc (.cells #[.bool false,.bool false] 149))from by subst hmb;exact Dl.start HPA.o);rw[<-hmb];clear hmb c12
 go_loopg [2,3,5] M.length (fun g v2 v3 iv wr=>∃(k:Nat),iv= .int .i64 (k:Int)/\g+k=M.length/\Dl N t w t p (dueM p.now (M.take k)) (leftM p.now (M.take k)) v2 v3 mb (metM (dueM p.now (M.take k)) false) (metM (dueM p.now (M.take k)) true) wr/\OwnF wr N t.vW M)
 case atStart=>exact⟨0,rfl,by omega,HD0.o,HMO.below ((Below.refl _ w).alloc (Nat.le_refl _) _)⟩
 case round =>
  obtain⟨k,rfl,hgk,hst,how⟩:=hrel;have HS:=hid hst;have HW:=hid how;clear hst how HD0;obtain⟨a2,e2,hv2⟩:=HS.d.val';obtain⟨a3,e3,hv3⟩:=HS.l.val';subst hv2 hv3;have c12:wr.cell? ⟨t.B,12,none⟩=some (.slice a M.length cap):=by have:=HS.st.cell 12 t.vW rfl;rwa [HV.o]at this
  by_cases hk:k<M.length
  ·have hki:(k:Int)<(M.length:Int):=by omega
   have HD2:=hid (dueM_snoc p.now M k hk);have HL2:=hid (leftM_snoc p.now M k hk);obtain⟨g,cg,hvg,hgl,hcs⟩:=HW.at hk;obtain⟨rfl,rfl⟩:a=some ⟨g,0,none⟩/\cap=cg:=by have h1:=HV.o;rw[hvg]at h1;cases h1;exact⟨rfl,rfl⟩
   have HBX:=hid (HW.2 M[k] (List.getElem_mem hk));obtain⟨x,hx⟩:∃x,x=M[k]:=⟨_,rfl⟩;rw[<-hx]at hcs HBX HD2 HL2;clear hx hvg;have HRG:=hid (fl_range hcs);clear hcs
   go_wp2_with (refine wpList_load_mid rfl 46 _ rfl g (k*16) rfl (flL x) _ HRG.o Tryz.underlying46 rfl fl_size ?_;(try dsimp only[flL,sgL]))
   have len2:(dueM p.now (M.take k)).length<=100000000:=Nat.le_trans (List.length_filter_le _ _) (by rw[List.length_take];omega);have len3:(leftM p.now (M.take k)).length<=100000000:=Nat.le_trans (List.length_filter_le _ _) (by rw[List.length_take];omega);have HFL:=hid (fun kk (e:_=some kk)=>Nat.ne_of_lt (HS.l.lt kk e).2);clear HRG;change Code.wp _ _ _ _ (wr.alloc (.cells (flL x).toArray 46));have hbF:=(Below.refl wr.heap.size wr).alloc (Nat.le_refl _) (.cells (flL x).toArray 46);have HF:=hid (FlRow.new wr x);have HFW:=hid (fun kk (e:t.vW.ownBlock=some kk)=>Nat.ne_of_lt (HW.lt kk e).2);have HFD:=hid (fun kk (e:_=some kk)=>Nat.ne_of_lt (HS.d.lt kk e).2);replace HS:=hid (HS.bel hbF);replace HW:=hid (HW.below hbF);replace HBX:=hid (HBX.keep hbF.size (SpanKept.below hbF));clear hbF;generalize hF:wr.heap.size=F at HF HFD HFL HFW|-;generalize wr.alloc (.cells (flL x).toArray 46)=w1 at *;clear hF
   go_upto_region 7 with fail
   go_cut [39]from 28 to 38 (fun v39 wx=>v39= .bool (Pr.readyB p.now x.1)/\Dl N t w t p (dueM p.now (M.take k)) (leftM p.now (M.take k)) (.slice a2 (dueM p.now (M.take k)).length e2) (.slice a3 (leftM p.now (M.take k)).length e3) mb (metM (dueM p.now (M.take k)) false) (metM (dueM p.now (M.take k)) true) wx/\OwnF wx N t.vW M/\FlRow F x wx/\BlIn wx x.2.1 x.1.s.bl)
   case first =>
    by_cases hh:x.1.held=true
    ·have hrd:Pr.readyB p.now x.1=false:=by unfold Pr.readyB;rw[hh];rfl
     refine wpB (fun W:World=>W.cell? ⟨F,2,none⟩=some (.bool true)) (HF.cell 2 _ (by show some (Value.bool x.1.held)=_;rw[hh])) fun hZ=>?_;replace HS:=hid (HS.bel (Below.refl _ _).drew);replace HF:=hid (show FlRow F x w1.drew from HF.o);replace HW:=hid (show OwnF w1.drew N t.vW M from HW.below (Below.refl _ _).drew);replace HBX:=hid (HBX.keep (Below.refl w1.heap.size w1).drew.size (SpanKept.below (Below.refl w1.heap.size w1).drew));generalize w1.drew=w2 at *;refine wpT4 0 1 2 3 ?_;refine wpK 4 ?_;refine wpK 5 ?_;refine wpK 6 ?_;refine wpK 7 ?_;refine wpK 8 ?_;refine wpK 9 ?_;refine wpK 10 ?_;refine wpT 11 ?_;refine wpD ?_ _;clear hZ;clear hh;go_wp2_with fail
     go_meet
     case rel=>exact⟨by rw[hrd],HS.o,HW.o,HF.o,HBX.o⟩
    replace hh:x.1.held=false:=by simpa using hh
    by_cases hdu:x.1.due<=p.now
    ·have hrd:Pr.readyB p.now x.1=true:=by unfold Pr.readyB;rw[hh];show decide (x.1.due<=p.now)=true;simp[hdu]
     refine wpB (fun W:World=>W.cell? ⟨F,2,none⟩=some (.bool false)/\W.cell? ⟨F,1,none⟩=some (.int .i64 x.1.due)/\W.cell? ⟨t.B,13,none⟩=some (.int .i64 p.now)) (⟨HF.cell 2 _ (by show some (Value.bool x.1.held)=_;rw[hh]),HF.cell 1 _ rfl,HS.st.cell 13 (.int .i64 p.now) rfl⟩) fun hZ=>?_;replace HS:=hid (HS.bel (Below.refl _ _).drew);replace HF:=hid (show FlRow F x w1.drew from HF.o);replace HW:=hid (show OwnF w1.drew N t.vW M from HW.below (Below.refl _ _).drew);replace HBX:=hid (HBX.keep (Below.refl w1.heap.size w1).drew.size (SpanKept.below (Below.refl w1.heap.size w1).drew));generalize w1.drew=w2 at *;refine wpT4 0 1 2 3 ?_;refine wpT4 4 5 6 7 ?_;refine wpT2 8 9 ?_;refine wpT 10 (v:=.bool true) ?_ (hy:=by intro w hSw;(obtain⟨z0,z1,z2⟩:=hSw);go_simp;(try first | omega | (rw[decide_eq_true_iff];omega)));refine wpT 11 ?_;refine wpD ?_ _;clear hZ;clear hh;go_wp2_with fail
     go_meet
     case rel=>exact⟨by rw[hrd],HS.o,HW.o,HF.o,HBX.o⟩
    have hrd:Pr.readyB p.now x.1=false:=by unfold Pr.readyB;rw[hh];show decide (x.1.due<=p.now)=false;simp[hdu]
    refine wpB (fun W:World=>W.cell? ⟨F,2,none⟩=some (.bool false)/\W.cell? ⟨F,1,none⟩=some (.int .i64 x.1.due)/\W.cell? ⟨t.B,13,none⟩=some (.int .i64 p.now)) (⟨HF.cell 2 _ (by show some (Value.bool x.1.held)=_;rw[hh]),HF.cell 1 _ rfl,HS.st.cell 13 (.int .i64 p.now) rfl⟩) fun hZ=>?_;replace HS:=hid (HS.bel (Below.refl _ _).drew);replace HF:=hid (show FlRow F x w1.drew from HF.o);replace HW:=hid (show OwnF w1.drew N t.vW M from HW.below (Below.refl _ _).drew);replace HBX:=hid (HBX.keep (Below.refl w1.heap.size w1).drew.size (SpanKept.below (Below.refl w1.heap.size w1).drew));generalize w1.drew=w2 at *;refine wpT4 0 1 2 3 ?_;refine wpT4 4 5 6 7 ?_;refine wpT2 8 9 ?_;refine wpT 10 (v:=.bool false) ?_ (hy:=by intro w hSw;(obtain⟨z0,z1,z2⟩:=hSw);go_simp;(try first | omega | (rw[decide_eq_false_iff_not];omega)));refine wpT 11 ?_;refine wpD ?_ _;clear hZ;clear hh;go_wp2_with fail
    go_meet
    case rel=>exact⟨by rw[hrd],HS.o,HW.o,HF.o,HBX.o⟩
   case rest =>
    obtain⟨rfl,h1,h2,h3,h4⟩:=hcut;clear HS HW HF HBX;have HS:=hid h1;have HW:=hid h2;have HF:=hid h3;have HBX:=hid h4;clear h1 h2 h3 h4;obtain⟨b,hrd⟩:∃b,Pr.readyB p.now x.1=b:=⟨_,rfl⟩;rw[hrd]at HD2 HL2|-;clear hrd
    cases b
    ·have HDE:=HD2.o;have HLE:=HL2.o;rw[if_neg Bool.false_ne_true]at HDE HLE;have HRF:=hid (FlRow.range HF.o);have hbB:=(Below.refl wc.heap.size wc).alloc (Nat.le_refl _) (.cells (flL x).toArray 46);have HNW:=hid (fl_one (heap_alloc_new wc (.cells (flL x).toArray 46)));replace HS:=hid (HS.bel hbB);have HYI:=hid (show ∀u∈([x]:List FlM),BlIn (wc.alloc (.cells (flL x).toArray 46)) u.2.1 u.1.s.bl from fun u hu=>by rw[List.mem_singleton.1 hu];exact HBX.keep hbB.size (SpanKept.below hbB));have HF2:=hid (HF.below hbB);have HW2:=hid (HW.below hbB);have hll:(leftM p.now (M.take k)).length+([x]:List FlM).length<=1000000000000:=by have:=len3;show _+1<=_;omega
     go_wp2_with (first | (at_builtin;refine wpList_append_fls _ rfl _ _ rfl N _ (leftM p.now (M.take k)) rfl HS.l wc.heap.size 0 1 [x] rfl HNW.o HYI.o hll HS.st.pa.big ?_) | (refine wpList_load_mid rfl 46 _ rfl F 0 rfl (flL x) _ HRF.o Tryz.underlying46 rfl fl_size ?_;(try dsimp only[flL,sgL])))
     intro v4 w4 ho hg hb;clear hll HNW HYI hbB HRF;replace HF:=hid (show FlRow F x w4 from(hg.block F HF2.lt (fun e=>HFL.o F e.symm rfl)).trans HF2.o);replace HW:=hid (HW2.keep hg.size (HS.l.spanKept hg) (fun kk e=>hg.block kk (HW2.lt kk e).2 (fun e2=>(HS.nl kk e2.symm).1 (.inr (.inr (.inr (.inl e)))))));clear HW2;have HSx:=hid (HS.app3 (x:=x) (by first | exact ho | (rw[List.append_assoc];exact ho)) hg (hb.imp id fun⟨kk,h1,h2⟩=>⟨kk,h1,by show(wc.heap.push _).size<=kk;rw[Array.size_push];exact h2⟩));clear HF2 ho hg hb HS;have HS:=HSx;clear HSx;go_wp2_with fail
     go_roundg (gk-1)
     case measure=>omega
     case rel=>exact⟨k+1,by first | rfl | go_num | (have e:wrap64 ((k:Int)+1)=((k+1:Nat):Int):=(by unfold wrap64;omega);rw[e]),by omega,by rw[HDE,HLE];exact HS.o,HW.o⟩
    have HDE:=HD2.o;have HLE:=HL2.o;rw[if_pos rfl]at HDE HLE;have HRF:=hid (FlRow.range HF.o);have hbB:=(Below.refl wc.heap.size wc).alloc (Nat.le_refl _) (.cells (flL x).toArray 46);have HNW:=hid (fl_one (heap_alloc_new wc (.cells (flL x).toArray 46)));replace HS:=hid (HS.bel hbB);have HYI:=hid (show ∀u∈([x]:List FlM),BlIn (wc.alloc (.cells (flL x).toArray 46)) u.2.1 u.1.s.bl from fun u hu=>by rw[List.mem_singleton.1 hu];exact HBX.keep hbB.size (SpanKept.below hbB));have HF2:=hid (HF.below hbB);have HW2:=hid (HW.below hbB);have hll:(dueM p.now (M.take k)).length+([x]:List FlM).length<=1000000000000:=by have:=len2;show _+1<=_;omega
    go_wp2_with (first | (at_builtin;refine wpList_append_fls _ rfl _ _ rfl N _ (dueM p.now (M.take k)) rfl HS.d wc.heap.size 0 1 [x] rfl HNW.o HYI.o hll HS.st.pa.big ?_) | (refine wpList_load_mid rfl 46 _ rfl F 0 rfl (flL x) _ HRF.o Tryz.underlying46 rfl fl_size ?_;(try dsimp only[flL,sgL])))
    intro v4 w4 ho hg hb;clear hll HNW HYI hbB HRF;replace HF:=hid (show FlRow F x w4 from(hg.block F HF2.lt (fun e=>HFD.o F e.symm rfl)).trans HF2.o);replace HW:=hid (HW2.keep hg.size (HS.d.spanKept hg) (fun kk e=>hg.block kk (HW2.lt kk e).2 (fun e2=>(HS.nd kk e2.symm).1 (.inr (.inr (.inr (.inl e)))))));clear HW2;have HSx:=hid (HS.app2 (x:=x) (by first | exact ho | (rw[List.append_assoc];exact ho)) hg (hb.imp id fun⟨kk,h1,h2⟩=>⟨kk,h1,by show(wc.heap.push _).size<=kk;rw[Array.size_push];exact h2⟩));clear HF2 ho hg hb HS;have HS:=HSx;clear HSx;obtain⟨hdst,hbI⟩ | ⟨hdst,hbI⟩:=bI_cases x.1.dst
    focus
     have k0:w4.cell? ⟨F,0,none⟩=some (.int .i64 0):=HF.cell 0 _ (by show some (Value.int .i64 (bI x.1.dst))=_;rw[hbI]);have m0:=HS.cellM 0 _ rfl;have f0:=HS.freeM 0;have ea:metM (dueM p.now (M.take k)++[x]) false=true:=by rw[metM_snoc,hdst];simp
     have eb:metM (dueM p.now (M.take k)++[x]) true=metM (dueM p.now (M.take k)) true:=by rw[metM_snoc,hdst];simp
     have HSf:=hid (HS.flag 0 (.bool true) (metM (dueM p.now (M.take k)++[x]) false) (metM (dueM p.now (M.take k)++[x]) true) (by rw[ea,eb];rfl));have hcM:Chg mb w4 (w4.setCell ⟨mb,0,none⟩ (.bool true)):=(Chg.refl _ _).setCell 0 (.bool true)
    rotate_left 1
    focus
     have k0:w4.cell? ⟨F,0,none⟩=some (.int .i64 1):=HF.cell 0 _ (by show some (Value.int .i64 (bI x.1.dst))=_;rw[hbI]);have m0:=HS.cellM 1 _ rfl;have f0:=HS.freeM 1;have ea:metM (dueM p.now (M.take k)++[x]) true=true:=by rw[metM_snoc,hdst];simp
     have eb:metM (dueM p.now (M.take k)++[x]) false=metM (dueM p.now (M.take k)) false:=by rw[metM_snoc,hdst];simp
     have HSf:=hid (HS.flag 1 (.bool true) (metM (dueM p.now (M.take k)++[x]) false) (metM (dueM p.now (M.take k)++[x]) true) (by rw[ea,eb];rfl));have hcM:Chg mb w4 (w4.setCell ⟨mb,1,none⟩ (.bool true)):=(Chg.refl _ _).setCell 1 (.bool true)
    all_goals
     have HWf:=hid (HW.keep hcM.size (.chg hcM HS.mty (by decide)) (fun kk e=>hcM.block kk (HW.lt kk e).2 ((HW.ty kk e).ne HS.mty (by decide))));clear hcM ea eb;go_wp2_with fail
     go_roundg (gk-1)
     case measure=>omega
     case rel=>exact⟨k+1,by first | rfl | go_num | (have e:wrap64 ((k:Int)+1)=((k+1:Nat):Int):=(by unfold wrap64;omega);rw[e]),by omega,by rw[HDE,HLE];exact HSf.o,HWf.o⟩
  have hge:k=M.length:=by omega
  subst hge;rw[List.take_length]at HS|-;have f12:=HS.st.free 12;have HS2:=HS.pair (HS.st.pa.setW (.slice none 0 0) [] (World.grownBy.refl _ _) (OwnF.nil _ _) (fun _ h=>nomatch h));rw[HS.st.eB]at HS2;replace HS2:=hid HS2;have hLL:(leftM p.now M).length<=100000000:=Nat.le_trans (List.length_filter_le _ _) (by omega);have hDL:(dueM p.now M).length<=100000000:=Nat.le_trans (List.length_filter_le _ _) (by omega);have HE0:=hid (metM_eq (dueM p.now M) false);have HE1:=hid (metM_eq (dueM p.now M) true);go_wp2_with fail;clear f12 HS HW c12;generalize wr.setCell ⟨t.B,12,none⟩ (.slice none 0 0)=w0 at HS2|-;obtain⟨L,hL⟩:∃L,L=leftM p.now M:=⟨_,rfl⟩;have HL:=hid hL;rw[<-hL]at HS2 hLL|-;clear hL;obtain⟨D0,hD0⟩:∃D0,D0=dueM p.now M:=⟨_,rfl⟩;have HD0':=hid hD0;rw[<-hD0]at HS2 HE0 HE1 hDL|-;clear hD0;obtain⟨ba,hba⟩:∃b,b=metM D0 false:=⟨_,rfl⟩;obtain⟨bb,hbb⟩:∃b,b=metM D0 true:=⟨_,rfl⟩;rw[<-hba]at HS2 HE0;rw[<-hbb]at HS2 HE1;clear hba hbb
  go_loopg [2,7] L.length (fun g v2 iv wr=>∃(k:Nat) (t1:Ft),iv= .int .i64 (k:Int)/\g+k=L.length/\Dl N t w t1 { p with wire:=(restM p.now D0 (L.take k)).map (·.1) } (D0++lateM p.now D0 (L.take k)) L v2 (.slice a3 L.length e3) mb ba bb wr)
  case atStart=>exact⟨0,_,rfl,by omega,by show Dl _ _ _ _ _ (D0++[]) _ _ _ _ _ _ _;rw[List.append_nil];exact HS2.o⟩
  case round =>
   obtain⟨k,t1,rfl,hgk,hst⟩:=hrel;have HS:=hid hst;clear hst HS2;obtain⟨a4,e4,hv4⟩:=HS.d.val';obtain⟨n2,hn2⟩:∃n2,n2=(D0++lateM p.now D0 (L.take k)).length:=⟨_,rfl⟩;rw[<-hn2]at hv4;subst hv4;clear hn2;by_cases hk:k<L.length
   ·have hki:(k:Int)<(L.length:Int):=by omega
    have HD2:=hid (lateM_snoc p.now D0 L k hk);have HL2:=hid (restM_snoc p.now D0 L k hk);obtain⟨g,cg,hvg,hgl,hcs⟩:=HS.l.at hk;obtain⟨rfl,rfl⟩:a3=some ⟨g,0,none⟩/\e3=cg:=by cases hvg;exact⟨rfl,rfl⟩
    have HBX:=hid (HS.l.2 L[k] (List.getElem_mem hk));have hdx:0<=L[k].1.due/\L[k].1.due<=1000100:=HDU.o L[k].1 (by rw[<-HWM.o];exact List.mem_map_of_mem (List.mem_filter.1 (show L[k]∈leftM p.now M from by rw[<-HL.o];exact List.getElem_mem hk)).1);obtain⟨x,hx⟩:∃x,x=L[k]:=⟨_,rfl⟩;rw[<-hx]at hcs HBX HD2 HL2 hdx;obtain⟨hdx0,hdx1⟩:=hdx;clear hx hvg;have HRG:=hid (fl_range hcs);clear hcs
    go_wp2_with (refine wpList_load_mid rfl 46 _ rfl g (k*16) rfl (flL x) _ HRG.o Tryz.underlying46 rfl fl_size ?_;(try dsimp only[flL,sgL]))
    have len2:(D0++lateM p.now D0 (L.take k)).length<=200000000:=by rw[List.length_append];have:(lateM p.now D0 (L.take k)).length<=(L.take k).length:=List.length_filter_le _ _;rw[List.length_take]at this;omega
    have HLN:=hid (show((restM p.now D0 (L.take k)).map (·.1)).length<=100000000 from by rw[List.length_map];exact Nat.le_trans (List.length_filter_le _ _) (by rw[List.length_take];omega));have HFT:=hid (fun(e:t1.D wr.heap.size)=>Nat.lt_irrefl _ (HS.st.pa.inD _ e).1);have hszF:=HS.st.size;clear HRG;change Code.wp _ _ _ _ (wr.alloc (.cells (flL x).toArray 46));have hbF:=(Below.refl wr.heap.size wr).alloc (Nat.le_refl _) (.cells (flL x).toArray 46);have HF:=hid (FlRow.new wr x);have HFD:=hid (fun kk (e:_=some kk)=>Nat.ne_of_lt (HS.d.lt kk e).2);replace HS:=hid (HS.bel hbF);replace HBX:=hid (HBX.keep hbF.size (SpanKept.below hbF));clear hbF;generalize hF:wr.heap.size=F at HF HFD HFT hszF|-;generalize wr.alloc (.cells (flL x).toArray 46)=w1 at *;clear hF
    go_upto_region 16 with fail
    go_cut [81]from 64 to 80 (fun v81 wx=>v81= .bool (Pr.lateB p.now (D0.map (·.1)) x.1)/\Dl N t w t1 { p with wire:=(restM p.now D0 (L.take k)).map (·.1) } (D0++lateM p.now D0 (L.take k)) L (.slice a4 n2 e4) (.slice (some ⟨g,0,none⟩) L.length e3) mb ba bb wx/\FlRow F x wx/\BlIn wx x.2.1 x.1.s.bl)
    case first =>
     by_cases hh:x.1.held=true
     ·obtain⟨hdst,hbI⟩ | ⟨hdst,hbI⟩:=bI_cases x.1.dst
      focus
       by_cases hmb:ba=true
       ·have hrd:Pr.lateB p.now (D0.map (·.1)) x.1=true:=by unfold Pr.lateB;rw[hh,hdst,<-HE0.o,hmb];rfl
        refine wpB (fun W:World=>W.cell? ⟨F,2,none⟩=some (.bool true)/\W.cell? ⟨F,0,none⟩=some (.int .i64 0)/\W.cell? ⟨mb,0,none⟩=some (.bool true)) (⟨HF.cell 2 _ (by show some (Value.bool x.1.held)=_;rw[hh]),HF.cell 0 _ (by show some (Value.int .i64 (bI x.1.dst))=_;rw[hbI]),(by have:=HS.cellM 0 _ rfl;rwa [hmb]at this)⟩) fun hZ=>?_;replace HS:=hid (HS.bel (Below.refl _ _).drew);replace HF:=hid (show FlRow F x w1.drew from HF.o);replace HBX:=hid (HBX.keep (Below.refl w1.heap.size w1).drew.size (SpanKept.below (Below.refl w1.heap.size w1).drew));generalize w1.drew=w2 at *;refine wpT4 0 1 2 3 ?_;refine wpT4 4 5 6 7 ?_;refine wpK 8 ?_;refine wpK 9 ?_;refine wpK 10 ?_;refine wpK 11 ?_;refine wpK 12 ?_;refine wpK 13 ?_;refine wpK 14 ?_;refine wpK 15 ?_;refine wpT2 16 17 ?_;refine wpD ?_ _;clear hZ;clear hh hbI hdst hmb;go_wp2_with fail
        go_meet
        case rel=>exact⟨by rw[hrd],HS.o,HF.o,HBX.o⟩
       replace hmb:ba=false:=by simpa using hmb
       by_cases hdu:x.1.due+30<=p.now
       ·have hrd:Pr.lateB p.now (D0.map (·.1)) x.1=true:=by unfold Pr.lateB;rw[hh,hdst,<-HE0.o,hmb];show decide (x.1.due+30<=p.now)=true;simp[hdu]
        refine wpB (fun W:World=>W.cell? ⟨F,2,none⟩=some (.bool true)/\W.cell? ⟨F,0,none⟩=some (.int .i64 0)/\W.cell? ⟨mb,0,none⟩=some (.bool false)/\W.cell? ⟨F,1,none⟩=some (.int .i64 x.1.due)/\W.cell? ⟨t.B,13,none⟩=some (.int .i64 p.now)) (⟨HF.cell 2 _ (by show some (Value.bool x.1.held)=_;rw[hh]),HF.cell 0 _ (by show some (Value.int .i64 (bI x.1.dst))=_;rw[hbI]),(by have:=HS.cellM 0 _ rfl;rwa [hmb]at this),HF.cell 1 _ rfl,HS.st.cell 13 (.int .i64 p.now) rfl⟩) fun hZ=>?_;replace HS:=hid (HS.bel (Below.refl _ _).drew);replace HF:=hid (show FlRow F x w1.drew from HF.o);replace HBX:=hid (HBX.keep (Below.refl w1.heap.size w1).drew.size (SpanKept.below (Below.refl w1.heap.size w1).drew));generalize w1.drew=w2 at *;refine wpT4 0 1 2 3 ?_;refine wpT4 4 5 6 7 ?_;refine wpT2 8 9 ?_;refine wpT 10 (v:=.int .i64 (x.1.due+30)) ?_ (hy:=by intro w hSw;(obtain⟨z0,z1,z2,z3,z4⟩:=hSw);go_simp;(rw[IntWalk.i64_in (x.1.due+30) (by omega)]));refine wpT4 11 12 13 14 ?_;refine wpT 15 (v:=.bool true) ?_ (hy:=by intro w hSw;(obtain⟨z0,z1,z2,z3,z4⟩:=hSw);go_simp;(try first | omega | (rw[decide_eq_true_iff];omega)));refine wpT2 16 17 ?_;refine wpD ?_ _;clear hZ;clear hh hbI hdst hmb hdu;go_wp2_with fail
        go_meet
        case rel=>exact⟨by rw[hrd],HS.o,HF.o,HBX.o⟩
       have hrd:Pr.lateB p.now (D0.map (·.1)) x.1=false:=by unfold Pr.lateB;rw[hh,hdst,<-HE0.o,hmb];show decide (x.1.due+30<=p.now)=false;simp[hdu]
       refine wpB (fun W:World=>W.cell? ⟨F,2,none⟩=some (.bool true)/\W.cell? ⟨F,0,none⟩=some (.int .i64 0)/\W.cell? ⟨mb,0,none⟩=some (.bool false)/\W.cell? ⟨F,1,none⟩=some (.int .i64 x.1.due)/\W.cell? ⟨t.B,13,none⟩=some (.int .i64 p.now)) (⟨HF.cell 2 _ (by show some (Value.bool x.1.held)=_;rw[hh]),HF.cell 0 _ (by show some (Value.int .i64 (bI x.1.dst))=_;rw[hbI]),(by have:=HS.cellM 0 _ rfl;rwa [hmb]at this),HF.cell 1 _ rfl,HS.st.cell 13 (.int .i64 p.now) rfl⟩) fun hZ=>?_
      rotate_left 1
      focus
       by_cases hmb:bb=true
       ·have hrd:Pr.lateB p.now (D0.map (·.1)) x.1=true:=by unfold Pr.lateB;rw[hh,hdst,<-HE1.o,hmb];rfl
        refine wpB (fun W:World=>W.cell? ⟨F,2,none⟩=some (.bool true)/\W.cell? ⟨F,0,none⟩=some (.int .i64 1)/\W.cell? ⟨mb,1,none⟩=some (.bool true)) (⟨HF.cell 2 _ (by show some (Value.bool x.1.held)=_;rw[hh]),HF.cell 0 _ (by show some (Value.int .i64 (bI x.1.dst))=_;rw[hbI]),(by have:=HS.cellM 1 _ rfl;rwa [hmb]at this)⟩) fun hZ=>?_;replace HS:=hid (HS.bel (Below.refl _ _).drew);replace HF:=hid (show FlRow F x w1.drew from HF.o);replace HBX:=hid (HBX.keep (Below.refl w1.heap.size w1).drew.size (SpanKept.below (Below.refl w1.heap.size w1).drew));generalize w1.drew=w2 at *;refine wpT4 0 1 2 3 ?_;refine wpT4 4 5 6 7 ?_;refine wpK 8 ?_;refine wpK 9 ?_;refine wpK 10 ?_;refine wpK 11 ?_;refine wpK 12 ?_;refine wpK 13 ?_;refine wpK 14 ?_;refine wpK 15 ?_;refine wpT2 16 17 ?_;refine wpD ?_ _;clear hZ;clear hh hbI hdst hmb;go_wp2_with fail
        go_meet
        case rel=>exact⟨by rw[hrd],HS.o,HF.o,HBX.o⟩
       replace hmb:bb=false:=by simpa using hmb
       by_cases hdu:x.1.due+30<=p.now
       ·have hrd:Pr.lateB p.now (D0.map (·.1)) x.1=true:=by unfold Pr.lateB;rw[hh,hdst,<-HE1.o,hmb];show decide (x.1.due+30<=p.now)=true;simp[hdu]
        refine wpB (fun W:World=>W.cell? ⟨F,2,none⟩=some (.bool true)/\W.cell? ⟨F,0,none⟩=some (.int .i64 1)/\W.cell? ⟨mb,1,none⟩=some (.bool false)/\W.cell? ⟨F,1,none⟩=some (.int .i64 x.1.due)/\W.cell? ⟨t.B,13,none⟩=some (.int .i64 p.now)) (⟨HF.cell 2 _ (by show some (Value.bool x.1.held)=_;rw[hh]),HF.cell 0 _ (by show some (Value.int .i64 (bI x.1.dst))=_;rw[hbI]),(by have:=HS.cellM 1 _ rfl;rwa [hmb]at this),HF.cell 1 _ rfl,HS.st.cell 13 (.int .i64 p.now) rfl⟩) fun hZ=>?_;replace HS:=hid (HS.bel (Below.refl _ _).drew);replace HF:=hid (show FlRow F x w1.drew from HF.o);replace HBX:=hid (HBX.keep (Below.refl w1.heap.size w1).drew.size (SpanKept.below (Below.refl w1.heap.size w1).drew));generalize w1.drew=w2 at *;refine wpT4 0 1 2 3 ?_;refine wpT4 4 5 6 7 ?_;refine wpT2 8 9 ?_;refine wpT 10 (v:=.int .i64 (x.1.due+30)) ?_ (hy:=by intro w hSw;(obtain⟨z0,z1,z2,z3,z4⟩:=hSw);go_simp;(rw[IntWalk.i64_in (x.1.due+30) (by omega)]));refine wpT4 11 12 13 14 ?_;refine wpT 15 (v:=.bool true) ?_ (hy:=by intro w hSw;(obtain⟨z0,z1,z2,z3,z4⟩:=hSw);go_simp;(try first | omega | (rw[decide_eq_true_iff];omega)));refine wpT2 16 17 ?_;refine wpD ?_ _;clear hZ;clear hh hbI hdst hmb hdu;go_wp2_with fail
        go_meet
        case rel=>exact⟨by rw[hrd],HS.o,HF.o,HBX.o⟩
       have hrd:Pr.lateB p.now (D0.map (·.1)) x.1=false:=by unfold Pr.lateB;rw[hh,hdst,<-HE1.o,hmb];show decide (x.1.due+30<=p.now)=false;simp[hdu]
       refine wpB (fun W:World=>W.cell? ⟨F,2,none⟩=some (.bool true)/\W.cell? ⟨F,0,none⟩=some (.int .i64 1)/\W.cell? ⟨mb,1,none⟩=some (.bool false)/\W.cell? ⟨F,1,none⟩=some (.int .i64 x.1.due)/\W.cell? ⟨t.B,13,none⟩=some (.int .i64 p.now)) (⟨HF.cell 2 _ (by show some (Value.bool x.1.held)=_;rw[hh]),HF.cell 0 _ (by show some (Value.int .i64 (bI x.1.dst))=_;rw[hbI]),(by have:=HS.cellM 1 _ rfl;rwa [hmb]at this),HF.cell 1 _ rfl,HS.st.cell 13 (.int .i64 p.now) rfl⟩) fun hZ=>?_
      all_goals
       replace HS:=hid (HS.bel (Below.refl _ _).drew);replace HF:=hid (show FlRow F x w1.drew from HF.o);replace HBX:=hid (HBX.keep (Below.refl w1.heap.size w1).drew.size (SpanKept.below (Below.refl w1.heap.size w1).drew));generalize w1.drew=w2 at *;refine wpT4 0 1 2 3 ?_;refine wpT4 4 5 6 7 ?_;refine wpT2 8 9 ?_;refine wpT 10 (v:=.int .i64 (x.1.due+30)) ?_ (hy:=by intro w hSw;(obtain⟨z0,z1,z2,z3,z4⟩:=hSw);go_simp;(rw[IntWalk.i64_in (x.1.due+30) (by omega)]));refine wpT4 11 12 13 14 ?_;refine wpT 15 (v:=.bool false) ?_ (hy:=by intro w hSw;(obtain⟨z0,z1,z2,z3,z4⟩:=hSw);go_simp;(try first | omega | (rw[decide_eq_false_iff_not];omega)));refine wpT2 16 17 ?_;refine wpD ?_ _;clear hZ;clear hh hbI hdst hmb hdu;go_wp2_with fail
       go_meet
       case rel=>exact⟨by rw[hrd],HS.o,HF.o,HBX.o⟩
     replace hh:x.1.held=false:=by simpa using hh
     have hrd:Pr.lateB p.now (D0.map (·.1)) x.1=false:=by unfold Pr.lateB;rw[hh];rfl
     refine wpB (fun W:World=>W.cell? ⟨F,2,none⟩=some (.bool false)) (HF.cell 2 _ (by show some (Value.bool x.1.held)=_;rw[hh])) fun hZ=>?_;replace HS:=hid (HS.bel (Below.refl _ _).drew);replace HF:=hid (show FlRow F x w1.drew from HF.o);replace HBX:=hid (HBX.keep (Below.refl w1.heap.size w1).drew.size (SpanKept.below (Below.refl w1.heap.size w1).drew));generalize w1.drew=w2 at *;refine wpT2 0 1 ?_;refine wpT 2 ?_;refine wpK 3 ?_;refine wpK 4 ?_;refine wpK 5 ?_;refine wpK 6 ?_;refine wpK 7 ?_;refine wpK 8 ?_;refine wpK 9 ?_;refine wpK 10 ?_;refine wpK 11 ?_;refine wpK 12 ?_;refine wpK 13 ?_;refine wpK 14 ?_;refine wpK 15 ?_;refine wpK 16 ?_;refine wpT 17 ?_;refine wpD ?_ _;clear hZ;clear hh;go_wp2_with fail
     go_meet
     case rel=>exact⟨by rw[hrd],HS.o,HF.o,HBX.o⟩
    case rest =>
     obtain⟨rfl,h1,h3,h4⟩:=hcut;clear HS HF HBX;have HS:=hid h1;have HF:=hid h3;have HBX:=hid h4;clear h1 h3 h4;obtain⟨b,hrd⟩:∃b,Pr.lateB p.now (D0.map (·.1)) x.1=b:=⟨_,rfl⟩;rw[hrd]at HD2 HL2|-;clear hrd
     cases b
     ·have HDE:=hid HD2.o;have HLE:=hid HL2.o;have HP:=hid (HS.pst HF.o HBX.o hszF HFT.o);have HD:=hid HS.o;clear HS HF HBX HFT;obtain⟨tc,htc⟩:∃tc,tc=t1:=⟨_,rfl⟩;rw[<-htc]at HP HD;clear htc
      go_upto_region 18 with fail
      refine wpB (FlRow F x) (HP.row) fun hZ=>?_;replace HP:=hid (HP.bel (Below.refl _ _).drew);replace HD:=hid (HD.bel (Below.refl _ _).drew);generalize hwd:World.drew _=w9 at HP HD hZ|-;clear hwd;have cS:w9.cell? ⟨t.B,12,none⟩=some tc.vW:=HP.st.cell 12 _ rfl;have hb:=(Below.refl w9.heap.size w9).alloc (Nat.le_refl _) (.cells (flatF ([x]:List FlM)).toArray 46);have hlt9:t.B<w9.heap.size:=by rw[<-HP.st.eB];exact HP.st.pa.lt
      have cS2:=(World.cell?_of_block (a:=⟨t.B,12,none⟩) (hb.block t.B hlt9)).trans cS;refine wpT4 0 1 2 3 ?_;refine wpL 5 (flL x) (fun _ h=>FlRow.range h) Tryz.underlying46 fl_size ?_ (ha:=by((try simp only[Act.put,List.setIfInBounds_toArray,List.set_cons_zero,List.set_cons_succ,flL,sgL]);(try rfl)));refine wpAnyH_ready (rs:=[4,6]) (by kernel_rfl) (by simp) ?_;refine AllReadyH.cons (by simp only[List.getElem?_toArray,List.getElem?_cons_succ,List.getElem?_cons_zero];rfl) (fun Kq hKq=> ?_) (AllReadyH.cons (by simp only[List.getElem?_toArray,List.getElem?_cons_succ,List.getElem?_cons_zero];rfl) (fun Kq hKq=> ?_) AllReadyH.nil)
      focus
       go_simp;refine hKq.out _ _ (hZ) ?_;clear hKq Kq hZ;refine fun hZ=>wpA ?_;refine wpR 6 fun Kq hKq=> ?_;go_simp;refine hKq.out _ _ ((FlRow.below HP.row hb)) ?_;clear hKq Kq hZ;refine fun hZ=>wpA ?_
      rotate_left 1
      focus
       go_simp;refine hKq.out _ _ ((FlRow.below HP.row hb)) ?_;clear hKq Kq hZ;refine fun hZ=>wpA ?_;refine wpR 4 fun Kq hKq=> ?_;go_simp;refine hKq.out _ _ (hZ) ?_;clear hKq Kq hZ;refine fun hZ=>wpA ?_
      all_goals
       as_aux_lemma =>
        have HPB:=hid (HP.bel hb);have HNW:=hid (fl_cells (M:=[x]) (heap_alloc_new w9 (.cells (flatF ([x]:List FlM)).toArray 46)));obtain⟨LL,hLL,hLo⟩:=HPB.st.pa.wire;have HLL:=hid hLL;have HLO:=hid hLo;have hlen:LL.length=((restM p.now D0 (L.take k)).map (·.1)).length:=by rw[<-List.length_map (f:=(·.1)),hLL]
        clear hLL hLo;have HLB:=hid (show LL.length+1<=1000000000000 by rw[hlen];have:=HLN.o;omega);clear hlen;have HYI:=hid (show ∀u∈([x]:List FlM),BlIn (w9.alloc (.cells (flatF ([x]:List FlM)).toArray 46)) u.2.1 u.1.s.bl from fun u hu=>by rw[show u=x by simpa using hu];exact HPB.bl);refine wpR 7 fun Kq hKq=> ?_;refine step_append_fls rfl _ _ rfl N _ LL (by rfl) HLO.o w9.heap.size 0 1 [x] (by rfl) HNW.o HYI.o HLB.o HPB.st.pa.big ?_;intro v4 w10 ho4 hg4 hb4;obtain⟨a4,c4,hv4,-,-⟩:=ho4.val;obtain⟨n4,hn4⟩:∃n4,n4=(LL++[x]).length:=⟨_,rfl⟩;rw[<-hn4]at hv4;subst hv4;clear hn4;have HK:=hid (HPB.grownW hg4);have HP4:=hid (HPB.wire _ (LL++[x]) hg4 ho4 (fun kk hkk=>by rcases hb4 with hb4 | ⟨k2,hb4,hb5⟩;exact .inl (by rw[<-hb4];exact hkk);exact .inr (by rw[hb4]at hkk;cases hkk;exact hb5)));have HD4:=(HD.bel hb).pair (HPB.st.pa.setW _ (LL++[x]) hg4 ho4 (fun kk hkk=>by rcases hb4 with hb4 | ⟨k2,hb4,hb5⟩;exact .inl (by rw[<-hb4];exact hkk);exact .inr (by rw[hb4]at hkk;cases hkk;exact hb5)));rw[HPB.st.eB]at HD4;replace HD4:=hid HD4;have cT:w10.cell? ⟨t.B,12,none⟩=some tc.vW:=(World.cell?_of_block (a:=⟨t.B,12,none⟩) HK.1).trans (HPB.st.cell 12 _ rfl);have gT:w10.frozen? ⟨t.B,12,none⟩=false:=by have hk:=HK.1;rw[<-HPB.st.eB]at hk|-;exact frozen_of_row _ _ _ _ _ (hk.trans HPB.st.pa.blk)
        have hK10:FlRow F x w10:=HK.2.trans HPB.row;clear ho4 hg4 hb4;refine hKq.out _ _ (hK10) ?_;clear hKq Kq hZ;refine fun hZ=>wpA ?_;refine wpT2 8 9 ?_;refine wpR 10 fun Kq hKq=> ?_;go_simp;refine hKq.out _ _ (HP4.row) ?_;clear hKq Kq hZ;refine fun hZ=>wpA ?_;refine wpD ?_ _;clear hZ cT gT hK10 cS cS2 hb hlt9;replace HP:=hid (HP4.eqQ (q':=({ p with wire:=(restM p.now D0 (L.take k)++[x]).map (·.1) }:Pr)) (by rw[List.map_append,List.map_append,HLL.o]));replace HD:=hid (HD4.eqQ (q':=({ p with wire:=(restM p.now D0 (L.take k)++[x]).map (·.1) }:Pr)) (by rw[List.map_append,List.map_append,HLL.o]));clear HD4;clear HP4 HK HPB HNW HLO HLB HYI HLL;go_wp2_with fail
        go_roundg (gk-1)
        case measure=>omega
        case rel=>exact⟨k+1,_,by first | rfl | go_num | (have e:wrap64 ((k:Int)+1)=((k+1:Nat):Int):=(by unfold wrap64;omega);rw[e]),by omega,by rw[HDE.o,HLE.o,if_neg Bool.false_ne_true,if_neg Bool.false_ne_true];exact HD.o⟩
     have HDE:=HD2.o;have HLE:=HL2.o;rw[if_pos rfl]at HDE HLE;have HRF:=hid (FlRow.range HF.o);have hbB:=(Below.refl wc.heap.size wc).alloc (Nat.le_refl _) (.cells (flL x).toArray 46);have HNW:=hid (fl_one (heap_alloc_new wc (.cells (flL x).toArray 46)));replace HS:=hid (HS.bel hbB);have HYI:=hid (show ∀u∈([x]:List FlM),BlIn (wc.alloc (.cells (flL x).toArray 46)) u.2.1 u.1.s.bl from fun u hu=>by rw[List.mem_singleton.1 hu];exact HBX.keep hbB.size (SpanKept.below hbB));have HF2:=hid (HF.below hbB);have hll:(D0++lateM p.now D0 (L.take k)).length+([x]:List FlM).length<=1000000000000:=by have:=len2;show _+1<=_;omega
     go_wp2_with (first | (at_builtin;refine wpList_append_fls _ rfl _ _ rfl N _ (D0++lateM p.now D0 (L.take k)) rfl HS.d wc.heap.size 0 1 [x] rfl HNW.o HYI.o hll HS.st.pa.big ?_) | (refine wpList_load_mid rfl 46 _ rfl F 0 rfl (flL x) _ HRF.o Tryz.underlying46 rfl fl_size ?_;(try dsimp only[flL,sgL])))
     intro v4 w4 ho hg hb;clear hll HNW HYI hbB HRF;replace HF:=hid (show FlRow F x w4 from(hg.block F HF2.lt (fun e=>HFD.o F e.symm rfl)).trans HF2.o);have HSx:=hid (HS.app2 (x:=x) (by first | exact ho | (rw[List.append_assoc];exact ho)) hg (hb.imp id fun⟨kk,h1,h2⟩=>⟨kk,h1,by show(wc.heap.push _).size<=kk;rw[Array.size_push];exact h2⟩));clear HF2 ho hg hb HS;have HS:=HSx;clear HSx;go_wp2_with fail
     go_roundg (gk-1)
     case measure=>omega
     case rel=>exact⟨k+1,t1,by first | rfl | go_num | (have e:wrap64 ((k:Int)+1)=((k+1:Nat):Int):=(by unfold wrap64;omega);rw[e]),by omega,by rw[HDE,HLE,<-List.append_assoc];exact HS.o⟩
   have hge:k=L.length:=by omega
   subst hge;rw[List.take_length]at HS;obtain⟨DD,hDD⟩:∃DD,DD=D0++lateM p.now D0 L:=⟨_,rfl⟩;rw[<-hDD]at HS;have HDD:=hid hDD;clear hDD;obtain⟨_,_,hvv⟩:=HS.d.val'
   cases hvv
   have hDDl:DD.length<=200000000:=by rw[HDD.o,List.length_append];have:(lateM p.now D0 L).length<=L.length:=List.length_filter_le _ _;omega
   have HQ1:=hid (due_eq HWM.o HD0'.out HL.o HDD.o);obtain⟨q1,hq1⟩:∃q1:Pr,q1={ p with wire:=(restM p.now D0 L).map (·.1) }:=⟨_,rfl⟩;rw[<-hq1]at HS;have HE1':=hid hq1;clear hq1;have HF1:=hid (Pr.rest_fit HK.o);have hql:=HK.wlen;have HQE:=hid (show q1={ p with wire:=p.rest }from by rw[HE1'.out,HQ1.2]);go_wp2_with fail
   go_loopg [9] DD.length (fun g iv wr=>∃(k:Nat) (t2:Ft),iv= .int .i64 (k:Int)/\g+k=DD.length/\Dl N t w t2 (((DD.take k).map (·.1)).foldl Pr.recv1 q1) DD L (.slice a4 DD.length e4) (.slice a3 L.length e3) mb ba bb wr)
   case atStart=>exact⟨0,_,rfl,by omega,HS.o⟩
   case round =>
    obtain⟨k,t2,rfl,hgk,hst⟩:=hrel;clear HS;have HS:=hid hst;clear hst;by_cases hk:k<DD.length
    ·have hki:(k:Int)<(DD.length:Int):=by omega
     have HNX:=hid (fold_snoc DD k hk q1);obtain⟨g,cg,hvg,hgl,hcs⟩:=HS.d.at hk;obtain⟨rfl,rfl⟩:a4=some ⟨g,0,none⟩/\e4=cg:=by cases hvg;exact⟨rfl,rfl⟩
     have HGN:=hid (HS.nd g rfl).1;have HBX:=hid (HS.d.2 DD[k] (List.getElem_mem hk));have HXD:=hid (show DD[k].1∈p.due from by rw[<-HQ1.1];exact List.mem_map_of_mem (List.getElem_mem hk));have hlt3:((DD.take k).map (·.1)).length=k:=by rw[List.length_map,List.length_take];omega
     have HFK:=hid (Pr.fold_fit ((DD.take k).map (·.1)) (p:=q1) (by rw[HQE.o];exact HF1.o) (fun f hf=>by obtain⟨y,hy,rfl⟩:=List.mem_map.1 hf;exact HK.wire _ (Pr.due_mem (by rw[<-HQ1.1];exact List.mem_map_of_mem (List.mem_of_mem_take hy)))));have HML:=hid (Pr.Ml.fold ((DD.take k).map (·.1)) (show q1.Ml from by rw[HQE.o];exact HM.o));have HNW:=hid ((Pr.fold_now ((DD.take k).map (·.1)) q1).1.trans (by rw[HQE.o]));rw[hlt3]at HFK;clear hlt3;generalize ((DD.take k).map (·.1)).foldl Pr.recv1 q1=qk at HS HNX HFK HML HNW;obtain⟨x,hx⟩:∃x,x=DD[k]:=⟨_,rfl⟩;rw[<-hx]at hcs HBX HXD HNX;clear hx hvg;have HSX:=hid (HK.wire x.1 (Pr.due_mem HXD.o));have HBD:=hid (put_bds HFK.o HML.o HSX.o (by omega) (by omega));have HRG:=hid (sg_range hcs);have hd0:wr.cell? ⟨g,k*16,none⟩=some (.int .i64 (bI x.1.dst)):=hcs 0 (by decide) _ rfl;clear hcs;have HN64:=hid HK.in64;obtain⟨hdst,hbI⟩ | ⟨hdst,hbI⟩:=bI_cases x.1.dst
     focus
      rw[hbI]at hd0;have hcC:=HS.st.cell 0 (.pointer (some ⟨t2.fa.C,0,none⟩)) rfl;have HBD:=hid (show(qk.setC false (qk.a.c.receive qk.now x.1.s).1).log.length+(qk.a.c.receive qk.now x.1.s).2.length<=500000000000/\(qk.setC false (qk.a.c.receive qk.now x.1.s).1).wire.length+2*(qk.a.c.receive qk.now x.1.s).2.length<=500000000000/\(qk.setC false (qk.a.c.receive qk.now x.1.s).1).many+(qk.a.c.receive qk.now x.1.s).2.length<=1000000000000 from by have:=HBD.o;rw[hdst]at this;exact this);have HNY:=hid (show qk.recv1 x.1=(qk.setC false (qk.a.c.receive qk.now x.1.s).1).put false (qk.a.c.receive qk.now x.1.s).2 from by unfold Pr.recv1;rw[hdst];rfl);rw[HNW.o]at HBD HNY;go_wp2_with fail;clear hcC hd0;refine wpB (fun W:World=>W.cell? ⟨t.B,0,none⟩=some (.pointer (some ⟨t2.fa.C,0,none⟩))/\W.cell? ⟨t.B,13,none⟩=some (.int .i64 p.now)/\W.rangeAt g (k*16+3) (sgL (x.1.s,x.2.1,x.2.2))) (⟨HS.st.cell 0 (.pointer (some ⟨t2.fa.C,0,none⟩)) rfl,by rw[<-HNW.o];exact HS.st.cell 13 (.int .i64 qk.now) rfl,HRG.o⟩) fun hZ=>?_;replace HS:=hid (HS.bel (Below.refl _ _).drew);replace HBX:=hid (HBX.keep (Below.refl wr.heap.size wr).drew.size (SpanKept.below (Below.refl wr.heap.size wr).drew));generalize wr.drew=w3 at HS HBX hZ|-;refine wpT4 0 1 2 3 ?_;refine wpT4 4 5 6 7 ?_;refine wpT4 8 9 10 11 ?_;refine wpT4 12 13 14 15 ?_;refine wpT 16 ?_;refine wpL 17 (sgL (x.1.s,x.2.1,x.2.2)) (fun _ h=>h.2.2) Tryz.underlying43 sg_size ?_ (ha:=by((try simp only[Act.put,List.setIfInBounds_toArray,List.set_cons_zero,List.set_cons_succ,sgL]);(try rfl)));refine wpR 18 fun Kq hKq=> ?_;go_simp;refine(treceive_any t2.fa qk.a.c p.now x.1.s x.2.1 x.2.2 _ HS.st.pa.a HFK.a.c HN64.o HSX.o HBX.o).mono ?_;rintro e w4⟨v,gg,rfl,hl,hc,hch,hgg⟩;have k4:=HS.st.pa.onC false gg _ hc hch hgg;have hbg3:=k4.fr.block g (HS.d.lt g rfl).2 (HS.nd g rfl).1;replace HS:=hid (HS.pair k4);have HOL:=hid hl;clear hl hc hch hgg k4;go_simp;refine hKq.out _ _ (⟨HS.st.cell 0 (.pointer (some ⟨t2.fa.C,0,none⟩)) rfl,by rw[<-HNW.o];exact HS.st.cell 13 (.int .i64 qk.now) rfl,fun j u hj=>(World.cell?_of_block (a:=⟨g,k*16+3+j,none⟩) hbg3).trans (hZ.2.2 j u hj)⟩) ?_;clear hKq Kq hZ;refine fun hZ=>wpA ?_;have HPUT:=tput_any N _ _ false _ v _ _ HS.st.pa HOL.o HBD.1 HBD.2.1 HBD.2.2 (by show 0<=qk.now/\qk.now<=1000000;rw[HNW.o];exact⟨hnow0,hnow1⟩);rw[HS.st.eB,show bI false=0 from rfl]at HPUT;replace HPUT:=hid HPUT;refine wpR 19 fun Kq hKq=> ?_;go_simp;refine(HPUT.o).mono ?_;rintro e w5⟨rfl,t5,k5⟩;have hbg5:=k5.fr.block g (HS.d.lt g rfl).2 (HS.nd g rfl).1;have hC5:=k5.eC.1;replace HS:=hid (HS.pair k5);clear k5;go_simp;refine hKq.out _ _ (⟨(HS.st.cell 0 (.pointer (some ⟨t5.fa.C,0,none⟩)) rfl).trans (by rw[hC5];rfl),(HS.st.cell 13 _ rfl).trans (congrArg (fun z=>some (Value.int .i64 z)) ((put_keep _ _ _).2.2.1.trans HNW.o)),fun j u hj=>(World.cell?_of_block (a:=⟨g,k*16+3+j,none⟩) hbg5).trans (hZ.2.2 j u hj)⟩) (fun hHeld2=> ?_)
     rotate_left 1
     focus
      rw[hbI]at hd0;have hcC:=HS.st.cell 6 (.pointer (some ⟨t2.fb.C,0,none⟩)) rfl;have HBD:=hid (show(qk.setC true (qk.b.c.receive qk.now x.1.s).1).log.length+(qk.b.c.receive qk.now x.1.s).2.length<=500000000000/\(qk.setC true (qk.b.c.receive qk.now x.1.s).1).wire.length+2*(qk.b.c.receive qk.now x.1.s).2.length<=500000000000/\(qk.setC true (qk.b.c.receive qk.now x.1.s).1).many+(qk.b.c.receive qk.now x.1.s).2.length<=1000000000000 from by have:=HBD.o;rw[hdst]at this;exact this);have HNY:=hid (show qk.recv1 x.1=(qk.setC true (qk.b.c.receive qk.now x.1.s).1).put true (qk.b.c.receive qk.now x.1.s).2 from by unfold Pr.recv1;rw[hdst];rfl);rw[HNW.o]at HBD HNY;go_wp2_with fail;clear hcC hd0;refine wpB (fun W:World=>W.cell? ⟨t.B,6,none⟩=some (.pointer (some ⟨t2.fb.C,0,none⟩))/\W.cell? ⟨t.B,13,none⟩=some (.int .i64 p.now)/\W.rangeAt g (k*16+3) (sgL (x.1.s,x.2.1,x.2.2))) (⟨HS.st.cell 6 (.pointer (some ⟨t2.fb.C,0,none⟩)) rfl,by rw[<-HNW.o];exact HS.st.cell 13 (.int .i64 qk.now) rfl,HRG.o⟩) fun hZ=>?_;replace HS:=hid (HS.bel (Below.refl _ _).drew);replace HBX:=hid (HBX.keep (Below.refl wr.heap.size wr).drew.size (SpanKept.below (Below.refl wr.heap.size wr).drew));generalize wr.drew=w3 at HS HBX hZ|-;refine wpT4 0 1 2 3 ?_;refine wpT4 4 5 6 7 ?_;refine wpT4 8 9 10 11 ?_;refine wpT4 12 13 14 15 ?_;refine wpT 16 ?_;refine wpL 17 (sgL (x.1.s,x.2.1,x.2.2)) (fun _ h=>h.2.2) Tryz.underlying43 sg_size ?_ (ha:=by((try simp only[Act.put,List.setIfInBounds_toArray,List.set_cons_zero,List.set_cons_succ,sgL]);(try rfl)));refine wpR 18 fun Kq hKq=> ?_;go_simp;refine(treceive_any t2.fb qk.b.c p.now x.1.s x.2.1 x.2.2 _ HS.st.pa.b HFK.b.c HN64.o HSX.o HBX.o).mono ?_;rintro e w4⟨v,gg,rfl,hl,hc,hch,hgg⟩;have k4:=HS.st.pa.onC true gg _ hc hch hgg;have hbg3:=k4.fr.block g (HS.d.lt g rfl).2 (HS.nd g rfl).1;replace HS:=hid (HS.pair k4);have HOL:=hid hl;clear hl hc hch hgg k4;go_simp;refine hKq.out _ _ (⟨HS.st.cell 6 (.pointer (some ⟨t2.fb.C,0,none⟩)) rfl,by rw[<-HNW.o];exact HS.st.cell 13 (.int .i64 qk.now) rfl,fun j u hj=>(World.cell?_of_block (a:=⟨g,k*16+3+j,none⟩) hbg3).trans (hZ.2.2 j u hj)⟩) ?_;clear hKq Kq hZ;refine fun hZ=>wpA ?_;have HPUT:=tput_any N _ _ true _ v _ _ HS.st.pa HOL.o HBD.1 HBD.2.1 HBD.2.2 (by show 0<=qk.now/\qk.now<=1000000;rw[HNW.o];exact⟨hnow0,hnow1⟩);rw[HS.st.eB,show bI true=1 from rfl]at HPUT;replace HPUT:=hid HPUT;refine wpR 19 fun Kq hKq=> ?_;go_simp;refine(HPUT.o).mono ?_;rintro e w5⟨rfl,t5,k5⟩;have hbg5:=k5.fr.block g (HS.d.lt g rfl).2 (HS.nd g rfl).1;have hC5:=k5.eC.2;replace HS:=hid (HS.pair k5);clear k5;go_simp;refine hKq.out _ _ (⟨(HS.st.cell 6 (.pointer (some ⟨t5.fb.C,0,none⟩)) rfl).trans (by rw[hC5];rfl),(HS.st.cell 13 _ rfl).trans (congrArg (fun z=>some (Value.int .i64 z)) ((put_keep _ _ _).2.2.1.trans HNW.o)),fun j u hj=>(World.cell?_of_block (a:=⟨g,k*16+3+j,none⟩) hbg5).trans (hZ.2.2 j u hj)⟩) (fun hHeld2=> ?_)
     all_goals
      clear hKq Kq hZ;refine wpA ?_;have hZ:=hHeld2;clear hHeld2;refine wpD ?_ _;clear hZ;go_wp2_with fail
      go_roundg (gk-1)
      case measure=>omega
      case rel=>exact⟨k+1,_,by first | rfl | go_num | (have e:wrap64 ((k:Int)+1)=((k+1:Nat):Int):=(by unfold wrap64;omega);rw[e]),by omega,by rw[HNX.o,HNY.o];exact HS.o⟩
    have hge:k=DD.length:=by omega
    subst hge;rw[List.take_length,HQ1.1,HQE.o]at HS;go_wp2_with fail
    go_end0
    exact⟨rfl,t2,by rw[HR.o];exact HS.st⟩
end
section
set_option maxHeartbeats 8000000
set_option maxRecDepth 100000
open Go.RowKit Go.Shelf
theorem put_bd2 {X:Pr}{i:Bool}{l:List Sg}{q r:Int}(h:Pr.Fit (X.put i l) q r)(hw:X.wire.length<=400000000)(hm:X.Ml)(hr:r<=102000000000) :
  X.log.length+l.length<=500000000000/\X.wire.length+2*l.length<=500000000000/\X.many+l.length<=1000000000000:=by
 have h1:=h.llen;have h2:=(put_lens i l X).1;have h3:X.many=X.log.length:=hm;omega
theorem Pr.Ml.deliver {p:Pr}(h:p.Ml):p.deliver.Ml:=Pr.Ml.fold _ (show Pr.Ml { p with wire:=p.rest }from h)
theorem Pr.Ml.tick1 {p:Pr}(h:p.Ml)(i:Bool):(p.tick1 i).Ml:=Pr.Ml.put (h.setSd _ _) _ _
theorem Pr.Ml.tick {p:Pr}(h:p.Ml):p.tick.Ml:=((Pr.Ml.deliver (show Pr.Ml { p with now:=p.now+1 }from h)).tick1 false).tick1 true
def tkP (p:Pr):Nat->Pr
 | 0=>p
 | 1=>p.tick1 false
 | _=>(p.tick1 false).tick1 true
theorem ttickP_any (N:Nat) (t:Ft) (p:Pr) (w:World) (q r:Int) (h:PrAt N t p w) (hk:Pr.Fit p q r) (hq:q<=90000000) (hr:r<=90000000000) (hm:p.Ml) (hn:p.now+1<=1000000) :
  Calls Tryz.prog 39 #[.pointer (some ⟨t.B,0,none⟩)] w (PutOut N t w p.tick):=by
 have hnow:=hk.now;obtain⟨hnow0,hnow1⟩:=hnow;have HS0:=hid (h.set 13 (.int .i64 (p.now+1)) { p with now:=p.now+1 } rfl rfl rfl rfl rfl rfl);have c13:=h.cell 13 (.int .i64 p.now) rfl;have f13:=h.free 13;have HK0:=hid (show Pr.Fit { p with now:=p.now+1 } q r from⟨hk.a,hk.b,⟨by dsimp only;omega,hn⟩,hk.wire,hk.due,hk.log,hk.q,hk.r⟩);obtain⟨p0,hp0⟩:∃p0:Pr,p0={ p with now:=p.now+1 }:=⟨_,rfl⟩;rw[<-hp0]at HS0 HK0;have HM0:=hid (show p0.Ml from by rw[hp0];exact hm);have HR:=hid (show p.tick=tkP p0.deliver 2 from by rw[hp0];rfl);have hn0:p0.now=p.now+1:=by rw[hp0]
 have HN0:=hid hn0;clear hp0 h hk hm hn0
 go_enter Tryz.func39,Tryz.ntmps39
 go_wp2_with fail;clear c13 f13;generalize w.setCell ⟨t.B,13,none⟩ (.int .i64 (p.now+1))=w1 at HS0|-;refine(tdeliver_any N t p0 w1 q r HS0.pa HK0.o (by omega) (by omega) HM0.o).mono ?_;rintro e w2⟨rfl,t1,k1⟩;have HS1:=hid (HS0.trans k1);clear k1 HS0;have HK1:=hid (Pr.deliver_fit HK0.o);have HM1:=hid HM0.deliver;have HN1:=hid (show p0.deliver.now=p.now+1 from((Pr.fold_now _ _).1).trans HN0.o);obtain⟨pd,hpd⟩:∃pd,pd=p0.deliver:=⟨_,rfl⟩;rw[<-hpd]at HS1 HK1 HM1 HN1 HR;clear hpd HK0 HM0 HN0;go_wp2_with fail
 go_loopg [2] 2 (fun g iv wr=>∃(k:Nat) (t2:Ft),iv= .int .i64 (k:Int)/\g+k=2/\PrSt N t w t2 (tkP pd k) wr)
 case atStart=>exact⟨0,t1,rfl,rfl,HS1.o⟩
 case round =>
  obtain⟨k,t2,rfl,hgk,hst⟩:=hrel;have HS:=hid hst;clear hst HS1;have hk3:k=0\/k=1\/k=2:=by omega
  rcases hk3 with hk0 | hk1 | hk2
  ·subst hk0;have HFK:=hid (show Pr.Fit (tkP pd 0) _ _ from HK1.o);have HFN:=hid (show Pr.Fit ((tkP pd 0).tick1 false) _ _ from Pr.tick1_fit HK1.o false);have HMK:=hid (show(tkP pd 0).Ml from HM1.o);have HNK:=hid (show(tkP pd 0).now=p.now+1 from HN1.o);have HNX:=hid (show tkP pd 1=(tkP pd 0).tick1 false from rfl);generalize tkP pd 0=pk at HS HFK HFN HMK HNK HNX;have HNY:=hid (show pk.tick1 false=(pk.setC false (pk.a.c.tick (p.now+1)).1).put false (pk.a.c.tick (p.now+1)).2 from by rw[<-HNK.o];rfl);have hwk:=HFK.wlen;have HBD:=hid (put_bd2 (X:=pk.setC false (pk.a.c.tick (p.now+1)).1) (i:=false) (l:=(pk.a.c.tick (p.now+1)).2) (by rw[<-HNY.o];exact HFN.o) (by show pk.wire.length<=400000000;omega) (HMK.setSd false _) (by omega));clear hwk;have HN64:=hid (show In64 (p.now+1)from by unfold In64;omega);have hcC:=HS.cell 0 (.pointer (some ⟨t2.fa.C,0,none⟩)) rfl;go_wp2_with fail;clear hcC;refine wpB (fun W:World=>W.cell? ⟨t.B,0,none⟩=some (.pointer (some ⟨t2.fa.C,0,none⟩))/\W.cell? ⟨t.B,13,none⟩=some (.int .i64 (p.now+1))) (⟨HS.cell 0 (.pointer (some ⟨t2.fa.C,0,none⟩)) rfl,by rw[<-HNK.o];exact HS.cell 13 (.int .i64 pk.now) rfl⟩) fun hZ=>?_;replace HS:=hid (HS.bel (Below.refl _ _).drew);generalize wr.drew=w3 at HS hZ|-;refine wpT4 0 1 2 3 ?_;refine wpT4 4 5 6 7 ?_;refine wpT4 8 9 10 11 ?_;refine wpT 12 ?_;refine wpR 13 fun Kq hKq=> ?_;go_simp;refine(ttick_any t2.fa pk.a.c (p.now+1) _ HS.pa.a HFK.a.c HN64.o).mono ?_;rintro e w4⟨v,rfl,hl,hc,hch⟩;have k4:=HS.pa.onC false t2.fa.G _ hc hch (.inl rfl);replace HS:=hid (HS.trans k4);have HOL:=hid hl;clear hl hc hch k4;go_simp;refine hKq.out _ _ (⟨HS.cell 0 (.pointer (some ⟨t2.fa.C,0,none⟩)) rfl,by rw[<-HNK.o];exact HS.cell 13 (.int .i64 pk.now) rfl⟩) ?_;clear hKq Kq hZ;refine fun hZ=>wpA ?_;have HPUT:=tput_any N _ _ false _ v _ _ HS.pa HOL.o HBD.1 HBD.2.1 HBD.2.2 (by show 0<=pk.now/\pk.now<=1000000;rw[HNK.o];omega);rw[HS.eB,show bI false=0 from rfl]at HPUT;replace HPUT:=hid HPUT;refine wpR 14 fun Kq hKq=> ?_;go_simp;refine(HPUT.o).mono ?_;rintro e w5⟨rfl,t5,k5⟩;have hC5:=k5.eC.1;replace HS:=hid (HS.trans k5);clear k5;go_simp;refine hKq.out _ _ (⟨(HS.cell 0 (.pointer (some ⟨t5.fa.C,0,none⟩)) rfl).trans (by rw[hC5];rfl),(HS.cell 13 _ rfl).trans (congrArg (fun z=>some (Value.int .i64 z)) ((put_keep _ _ _).2.2.1.trans HNK.o))⟩) ?_;clear hKq Kq hZ;refine fun hZ=>wpA ?_;refine wpD ?_ _;clear hZ;go_wp2_with fail
   go_roundg (gk-1)
   case measure=>omega
   case rel=>exact⟨1,_,by first | rfl | go_num,by omega,by rw[HNX.o,HNY.o];exact HS.o⟩
  ·subst hk1;have HFK:=hid (show Pr.Fit (tkP pd 1) _ _ from(Pr.tick1_fit HK1.o false));have HFN:=hid (show Pr.Fit ((tkP pd 1).tick1 true) _ _ from Pr.tick1_fit (Pr.tick1_fit HK1.o false) true);have HMK:=hid (show(tkP pd 1).Ml from HM1.tick1 false);have HNK:=hid (show(tkP pd 1).now=p.now+1 from((put_keep _ _ _).2.2.1).trans HN1.o);have HNX:=hid (show tkP pd 2=(tkP pd 1).tick1 true from rfl);generalize tkP pd 1=pk at HS HFK HFN HMK HNK HNX;have HNY:=hid (show pk.tick1 true=(pk.setC true (pk.b.c.tick (p.now+1)).1).put true (pk.b.c.tick (p.now+1)).2 from by rw[<-HNK.o];rfl);have hwk:=HFK.wlen;have HBD:=hid (put_bd2 (X:=pk.setC true (pk.b.c.tick (p.now+1)).1) (i:=true) (l:=(pk.b.c.tick (p.now+1)).2) (by rw[<-HNY.o];exact HFN.o) (by show pk.wire.length<=400000000;omega) (HMK.setSd true _) (by omega));clear hwk;have HN64:=hid (show In64 (p.now+1)from by unfold In64;omega);have hcC:=HS.cell 6 (.pointer (some ⟨t2.fb.C,0,none⟩)) rfl;go_wp2_with fail;clear hcC;refine wpB (fun W:World=>W.cell? ⟨t.B,6,none⟩=some (.pointer (some ⟨t2.fb.C,0,none⟩))/\W.cell? ⟨t.B,13,none⟩=some (.int .i64 (p.now+1))) (⟨HS.cell 6 (.pointer (some ⟨t2.fb.C,0,none⟩)) rfl,by rw[<-HNK.o];exact HS.cell 13 (.int .i64 pk.now) rfl⟩) fun hZ=>?_;replace HS:=hid (HS.bel (Below.refl _ _).drew);generalize wr.drew=w3 at HS hZ|-;refine wpT4 0 1 2 3 ?_;refine wpT4 4 5 6 7 ?_;refine wpT4 8 9 10 11 ?_;refine wpT 12 ?_;refine wpR 13 fun Kq hKq=> ?_;go_simp;refine(ttick_any t2.fb pk.b.c (p.now+1) _ HS.pa.b HFK.b.c HN64.o).mono ?_;rintro e w4⟨v,rfl,hl,hc,hch⟩;have k4:=HS.pa.onC true t2.fb.G _ hc hch (.inl rfl);replace HS:=hid (HS.trans k4);have HOL:=hid hl;clear hl hc hch k4;go_simp;refine hKq.out _ _ (⟨HS.cell 6 (.pointer (some ⟨t2.fb.C,0,none⟩)) rfl,by rw[<-HNK.o];exact HS.cell 13 (.int .i64 pk.now) rfl⟩) ?_;clear hKq Kq hZ;refine fun hZ=>wpA ?_;have HPUT:=tput_any N _ _ true _ v _ _ HS.pa HOL.o HBD.1 HBD.2.1 HBD.2.2 (by show 0<=pk.now/\pk.now<=1000000;rw[HNK.o];omega);rw[HS.eB,show bI true=1 from rfl]at HPUT;replace HPUT:=hid HPUT;refine wpR 14 fun Kq hKq=> ?_;go_simp;refine(HPUT.o).mono ?_;rintro e w5⟨rfl,t5,k5⟩;have hC5:=k5.eC.2;replace HS:=hid (HS.trans k5);clear k5;go_simp;refine hKq.out _ _ (⟨(HS.cell 6 (.pointer (some ⟨t5.fb.C,0,none⟩)) rfl).trans (by rw[hC5];rfl),(HS.cell 13 _ rfl).trans (congrArg (fun z=>some (Value.int .i64 z)) ((put_keep _ _ _).2.2.1.trans HNK.o))⟩) ?_;clear hKq Kq hZ;refine fun hZ=>wpA ?_;refine wpD ?_ _;clear hZ;go_wp2_with fail
   go_roundg (gk-1)
   case measure=>omega
   case rel=>exact⟨2,_,by first | rfl | go_num,by omega,by rw[HNX.o,HNY.o];exact HS.o⟩
  subst hk2;go_wp2_with fail
  go_end0
  exact⟨rfl,t2,by rw[HR.o];exact HS.o⟩
end
end Go.Proofs.YtclkcmidhhfdmaaGreatDoor
