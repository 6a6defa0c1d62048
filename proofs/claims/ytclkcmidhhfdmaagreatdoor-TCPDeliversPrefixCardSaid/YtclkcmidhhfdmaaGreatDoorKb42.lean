import Derived.Test.YtclkcmidhhfdmaaGreatDoorKb39
namespace Go.Proofs.YtclkcmidhhfdmaaGreatDoor
open Lib (hid)
section
set_option maxHeartbeats 8000000
set_option maxRecDepth 100000
open Go.RowKit Go.Shelf
def UsrOut (f:Fp) (w:World) (vals:Value->Value) (L:List Sg) (d:Cn) (e:Ending) (w':World):Prop:=∃ v,e= .returned (vals v)/\OwnS w' w.heap.size v L/\CnAt f d w'/\ChgF f w w'
def Cn.sentN (c:Cn) (s:List UInt8):Int:=if c.refusal=0 then c.sendN s else 0
def Cn.heldC (c:Cn) (s:List UInt8) (n:Int):Cn:={ c with held:=c.held++s.take n.toNat }
def Cn.shutC (c:Cn):Cn:={ c with shut:=true }
def sendVals (n er:Int) (v:Value):Value:=.tuple #[.int .i64 n,v,.int .i64 er]
def closeVals (er:Int) (v:Value):Value:=.tuple #[v,.int .i64 er]
theorem tsend_any (f:Fp) (c:Cn) (now:Int) (s:List UInt8) (w:World) (h:CnAt f c w) (ok:c.Ok) (hn:In64 now) (hb:c.last+s.length<=1073741824) :
  Calls Tryz.prog 31 #[.pointer (some ⟨f.C,0,none⟩),.int .i64 now,.string ⟨s.toArray⟩] w (UsrOut f w (sendVals (c.sentN s) c.refusal) (c.send now s).2 (c.send now s).1):=by
 have HN:=hid hn;have hgt:=h.gl.top;have hlt:=h.lt;have HO:=hid ok;have HS:=hid (Lw.start h);clear h ok hn;obtain ⟨R,hR⟩:∃ R,R=c.send now s:=⟨_,rfl⟩;rw [←hR];have HR:=hid hR;clear hR;obtain ⟨V,hV⟩:∃ V,V=c.sentN s:=⟨_,rfl⟩;rw [←hV];have HV:=hid hV;clear hV;have HB:=hid hb;clear hb;obtain ⟨r,hr⟩:∃ r,r=c.refusal:=⟨_,rfl⟩;rw [←hr];have HRF:=hid hr;have hz:(⟨s.toArray⟩:ByteArray).size=s.length:=by simp [ByteArray.size]
 go_enter Tryz.func31,Tryz.ntmps31
 go_wp2_with fail;refine (trefusal_any f c _ HS.out.cn).mono ?_;rintro e w1 ⟨rfl,hb⟩;replace HS:=hid (HS.out.bel hb);clear hb;rw [←hr];clear hr;by_cases hq:r=0
 ·have HQ:=hid hq;have hq1:(r==0)=true:=beq_iff_eq.2 hq;have hq2:(r != 0)=false:=by rw [hq];rfl
  clear hq;replace HV:=hid (show V=c.sendN s by rw [HV.out];exact if_pos (HRF.out.symm.trans HQ.out));replace HR:=hid (HR.out.trans (by unfold Cn.send;rw [if_neg (fun h=>h (HRF.out.symm.trans HQ.out))]));have HSP:=hid (show 0<=c.space/\c.space<=8192 by have h1:=HO.out.cfr;unfold Cn.space;split <;> omega);go_wp2_with fail;refine (tspace_any f c _ HS.out.cn (by have:=HO.out.hlen;omega) (by have:=HO.out.cfr;omega)).mono ?_;rintro e w2 ⟨rfl,hb⟩;replace HS:=hid (HS.out.bel hb);clear hb;have hsp:=HSP.out;have hsl:s.length<=1073741824:=by have h1:=HB.out;have h2:=HO.out.b0;unfold Cn.last at h1;omega
  obtain ⟨sp,hspq⟩:∃ sp,sp=c.space:=⟨_,rfl⟩;rw [←hspq] at hsp ⊢;have HSQ:=hid hspq;clear hspq;obtain ⟨n,hn⟩:∃ n:Int,n=min (s.length:Int) sp:=⟨_,rfl⟩;have HSN:=hid (show c.sendN s=n by unfold Cn.sendN;rw [←HSQ.out,hn]);have c3:=HS.out.cn.cell 3 (.string ⟨c.held.toArray⟩) rfl;have f3:=HS.out.cn.free 3;have hn01:0<=n/\n<=s.length:=by omega
  go_wp2_with fail;rw [←hn];clear hn;have hadd:∀ W:World,(Op.stringOp .add (⟨c.held.toArray⟩:ByteArray) ((⟨s.toArray⟩:ByteArray).extract 0 n.toNat)).run Tryz.prog W= .ok (.string ⟨(c.held++s.take n.toNat).toArray⟩) W:=fun W=>by rw [ext_bs',List.drop_zero];exact run_string_add_sum W _ _ (by have:=HO.out.hlen;simp [ByteArray.size];omega)
  refine wp_region_held_drew (S:=(fun _:World=>True)) (by kernel_rfl) (trivial) (fun hZ=> ?_);replace HS:=hid (HS.out.bel (Below.refl _ _).drew);replace c3:=HS.out.cn.cell 3 (.string ⟨c.held.toArray⟩) rfl;replace f3:=HS.out.cn.free 3;generalize hwd:World.drew _=w3d at HS c3 f3 hZ ⊢;clear hwd;refine wpT 0 ?_ (hy:=by intro w hSw;skip;go_simp;(try with_reducible rfl));refine wpT 1 ?_ (hy:=by intro w hSw;skip;go_simp;(try with_reducible rfl));refine wpT 2 ?_ (hy:=by intro w hSw;skip;go_simp;(try with_reducible rfl));refine wpT 3 ?_ (hy:=by intro w hSw;skip;go_simp;(try with_reducible rfl));refine wpT 5 ?_ (hy:=by intro w hSw;skip;go_simp;(try with_reducible rfl));refine wpT 6 ?_ (hy:=by intro w hSw;skip;go_simp;(try with_reducible rfl));refine wpT 7 ?_ (hy:=by intro w hSw;skip;go_simp;(try with_reducible rfl));refine wpR 4 fun Kq hKq=> ?_;go_simp;refine hKq.out _ _ (trivial) fun hI=>wpA ?_;clear hKq Kq hZ;have hZ:=hI;clear hI;refine wpT 8 ?_ (hy:=by intro w hSw;skip;go_simp;(try with_reducible rfl));refine wpT 9 ?_ (hy:=by intro w hSw;skip;go_simp;(try with_reducible rfl));refine wpT 10 ?_ (hy:=by intro w hSw;skip;go_simp;(try with_reducible rfl));refine wpT 11 ?_ (hy:=by intro w hSw;skip;go_simp;(try with_reducible rfl));refine wpR 12 fun Kq hKq=> ?_;go_simp;refine hKq.out _ _ (trivial) fun hI=>wpA ?_;clear hKq Kq hZ;have hZ:=hI;clear hI;refine wpAnyH_done (by kernel_rfl) ?_ _;clear hZ;replace HR:=hid (show R=(c.heldC s n).push now from HR.out.trans (by rw [HSN.out];rfl));have HOD:=hid (show (c.heldC s n).Ok from { HO.out with b1:=by have:=HB.out;unfold Cn.last at this ⊢;show c.base+((c.held++s.take n.toNat).length:Int)<=_;rw [List.length_append,List.length_take];omega });replace HS:=hid (HS.out.call (HS.out.cn.set 3 (.string ⟨(c.held++s.take n.toNat).toArray⟩) (c.heldC s n) rfl rfl rfl rfl rfl) (.ofC ((Chg.refl _ _).setCell 3 _)));clear c3 f3 hadd;generalize c.heldC s n=d at HS HOD HR;go_wp2_with fail;refine (tpush_any f d now _ HS.out.cn HOD.out HN.out).mono ?_;rintro e wz ⟨v,rfl,hl,hc,hch⟩;have HL:=hid (OwnS.low hl HS.out.ch.size);have HC8:=hid hc;have HX8:=hid (HS.out.ch.trans hch);clear hl hc hch;go_wp2_with fail
  go_ret3
  exact ⟨_,by rw [HV.out,HSN.out,HQ.out];rfl,by rw [HR.out];exact HL.out,by rw [HR.out];exact HC8.out,HX8.out⟩
 have HQ:=hid hq;have hq1:(r==0)=false:=beq_eq_false_iff_ne.2 hq;have hq2:(r != 0)=true:=bne_iff_ne.2 hq;clear hq;replace HV:=hid (show V=0 by rw [HV.out];exact if_neg (fun h=>HQ.out (HRF.out.trans h)));replace HR:=hid (HR.out.trans (by unfold Cn.send;rw [if_pos (fun h=>HQ.out (HRF.out.trans h))]));go_wp2_with fail
 go_ret3
 exact ⟨_,by rw [HV.out];rfl,by rw [HR.out];exact OwnS.nil _ _,by rw [HR.out];exact HS.out.cn,HS.out.ch⟩
theorem tclose_any (f:Fp) (c:Cn) (now:Int) (w:World) (h:CnAt f c w) (ok:c.Ok) (hn:In64 now) :
  Calls Tryz.prog 82 #[.pointer (some ⟨f.C,0,none⟩),.int .i64 now] w (UsrOut f w (closeVals c.closeE) (c.close now).2 (c.close now).1):=by
 have HT0:=hid ok.tr2;have HN:=hid hn;have hgt:=h.gl.top;have hlt:=h.lt;have HO:=hid ok;have HS:=hid (Lw.start h);clear h ok hn;obtain ⟨R,hR⟩:∃ R,R=c.close now:=⟨_,rfl⟩;rw [←hR];have HR:=hid hR;clear hR;obtain ⟨er,hE⟩:∃ er,er=c.closeE:=⟨_,rfl⟩;rw [←hE];have HE:=hid hE;clear hE
 go_enter Tryz.func82,Tryz.ntmps82
 go_wp2_with fail;refine (tclosed_any f c _ HS.out.cn).mono ?_;rintro e w1 ⟨rfl,hb⟩;replace HS:=hid (HS.out.bel hb);clear hb;by_cases h0:c.st=0
 ·replace HR:=hid (HR.out.trans (by unfold Cn.close;rw [if_pos (.inl h0)]));replace HE:=hid (HE.out.trans (by unfold Cn.closeE;rw [if_pos (.inl h0)]));have hd0:decide (c.st=0)=true:=decide_eq_true h0;clear h0;go_wp2_with fail
  go_ret2
  exact ⟨_,by rw [HE.out];rfl,by rw [HR.out];exact OwnS.nil _ _,by rw [HR.out];exact HS.out.cn,HS.out.ch⟩
 have H0:=hid h0;have hd0:decide (c.st=0)=false:=decide_eq_false h0;clear h0;by_cases hs:c.shut=true
 ·have HSH:=hid hs;replace HR:=hid (HR.out.trans (by unfold Cn.close;rw [if_pos (.inr HSH.out)]));replace HE:=hid (HE.out.trans (by unfold Cn.closeE;rw [if_pos (.inr HSH.out)]));have c9:=(HS.out.cn.cell 9 (.bool c.shut) rfl).trans (by rw [HSH.out]);clear hs;go_wp2_with fail
  go_ret2
  exact ⟨_,by rw [HE.out];rfl,by rw [HR.out];exact OwnS.nil _ _,by rw [HR.out];exact HS.out.cn,HS.out.ch⟩
 have HSH:=hid (show c.shut=false by simpa using hs);replace HE:=hid (HE.out.trans (by unfold Cn.closeE;rw [if_neg (by rintro (h | h);exact H0.out h;exact absurd (HSH.out.symm.trans h) (by decide))]));replace HR:=hid (show R=if c.shutC.st=1 then (c.shutC.finish now 5 183,[]) else if c.shutC.st=2 then c.shutC.push now else (c.shutC.step now 5).push now from HR.out.trans (by unfold Cn.close;rw [if_neg (by rintro (h | h);exact H0.out h;exact absurd (HSH.out.symm.trans h) (by decide))];rfl));clear hs;have c9:=(HS.out.cn.cell 9 (.bool c.shut) rfl).trans (by rw [HSH.out]);have f9:=HS.out.cn.free 9;have c28:=HS.out.cn.cell 28 (.int .i64 c.st) rfl;have HOD:=hid (show c.shutC.Ok from { HO.out with });have HTD:=hid (show c.shutC.tries<=12 from HT0.out H0.out);have HSN:=hid (HS.out.call (HS.out.cn.set 9 (.bool true) c.shutC rfl rfl rfl rfl rfl) (.ofC ((Chg.refl _ _).setCell 9 _)));by_cases h1:c.st=1
 ·have H1:=hid h1;rw [h1] at c28;clear h1;replace HR:=hid (HR.out.trans (if_pos (show c.shutC.st=1 from H1.out)));go_wp2_with fail;replace HS:=HSN;clear HSN c9 f9;clear c28;refine (tfinish_any f c.shutC now 5 183 _ HS.out.cn HOD.out.st (by decide)).mono ?_;rintro e w9 ⟨rfl,hc,hch⟩;replace HS:=hid (HS.out.call hc hch);clear hc hch;go_wp2_with fail
  go_ret2
  exact ⟨_,by rw [HE.out];rfl,by rw [HR.out];exact OwnS.nil _ _,by rw [HR.out];exact HS.out.cn,HS.out.ch⟩
 have H1:=hid h1;clear h1;by_cases h2:c.st=2
 ·have H2:=hid h2;rw [h2] at c28;clear h2;replace HR:=hid (HR.out.trans ((if_neg (show ¬ c.shutC.st=1 from H1.out)).trans (if_pos (show c.shutC.st=2 from H2.out))));go_wp2_with fail;replace HS:=HSN;clear HSN c9 f9;clear c28;refine (tpush_any f c.shutC now _ HS.out.cn HOD.out HN.out).mono ?_;rintro e wz ⟨v,rfl,hl,hc,hch⟩;have HL:=hid (OwnS.low hl HS.out.ch.size);have HC8:=hid hc;have HX8:=hid (HS.out.ch.trans hch);clear hl hc hch;go_wp2_with fail
  go_ret2
  exact ⟨_,by rw [HE.out];rfl,by rw [HR.out];exact HL.out,by rw [HR.out];exact HC8.out,HX8.out⟩
 have H2:=hid h2;have h1b:(c.st==1)=false:=beq_eq_false_iff_ne.2 H1.out;have h2b:(c.st==2)=false:=beq_eq_false_iff_ne.2 h2;clear h2;replace HR:=hid (HR.out.trans ((if_neg (show ¬ c.shutC.st=1 from H1.out)).trans (if_neg (show ¬ c.shutC.st=2 from H2.out))));go_wp2_with fail;replace HS:=HSN;clear HSN c9 f9;clear c28;refine (tstep_any f c.shutC now 5 _ HS.out.cn HOD.out.st (by decide)).mono ?_;rintro e w9 ⟨rfl,hc,hch⟩;replace HS:=hid (HS.out.call hc hch);clear hc hch;go_wp2_with fail;refine (tpush_any f (c.shutC.step now 5) now _ HS.out.cn (HOD.out.step HN.out HTD.out 5) HN.out).mono ?_;rintro e wz ⟨v,rfl,hl,hc,hch⟩;have HL:=hid (OwnS.low hl HS.out.ch.size);have HC8:=hid hc;have HX8:=hid (HS.out.ch.trans hch);clear hl hc hch;go_wp2_with fail
 go_ret2
 exact ⟨_,by rw [HE.out];rfl,by rw [HR.out];exact HL.out,by rw [HR.out];exact HC8.out,HX8.out⟩
end
section
set_option maxHeartbeats 8000000
set_option maxRecDepth 100000
open Go.RowKit Go.Shelf
theorem results_tmp4 {fn:Func} {t u v x:Tmp} (h:fn.results= #[.tmp t,.tmp u,.tmp v,.tmp x]) (tmps:Array Value) (P:Program) (w:World) :
  (results fn tmps).run P w= .ok (.tuple #[tmps.getD t undef,tmps.getD u undef,tmps.getD v undef,tmps.getD x undef]) w:=by
 simp [results,h]
def recvVals (s:List UInt8) (en:Bool) (er:Int) (v:Value):Value:=.tuple #[.string ⟨s.toArray⟩,.bool en,v,.int .i64 er]
def Cn.recvT (c:Cn) (n:Int):List UInt8:=if n<0 then [] else c.bx.takeS n
def Cn.recvF (c:Cn) (n:Int):Bool:=if n<0 then false else if c.recvErr n=0 then c.recvE n else false
def Cn.takeC (c:Cn) (n:Int):Cn:={ c with bx:=c.bx.take n }
theorem trecv_any (f:Fp) (c:Cn) (now n:Int) (w:World) (h:CnAt f c w) (ok:c.Ok) (hn:In64 now) :
  Calls Tryz.prog 78 #[.pointer (some ⟨f.C,0,none⟩),.int .i64 now,.int .i64 n] w (UsrOut f w (recvVals (c.recvT n) (c.recvF n) (c.recvErr n)) (c.recv now n).2 (c.recv now n).1):=by
 have HN:=hid hn;have hgt:=h.gl.top;have hlt:=h.lt;have HO:=hid ok;have HS:=hid (Lw.start h);clear h ok hn;obtain ⟨R,hR⟩:∃ R,R=c.recv now n:=⟨_,rfl⟩;rw [←hR];have HR:=hid hR;clear hR;obtain ⟨TT,hT⟩:∃ TT,TT=c.recvT n:=⟨_,rfl⟩;obtain ⟨FF,hF⟩:∃ FF,FF=c.recvF n:=⟨_,rfl⟩;obtain ⟨ER,hE⟩:∃ ER,ER=c.recvErr n:=⟨_,rfl⟩;rw [←hT,←hF,←hE];have HT:=hid hT;have HF:=hid hF;have HE:=hid hE;clear hT hF hE
 go_enter Tryz.func78,Tryz.ntmps78
 by_cases h0:n<0
 ·replace HR:=hid (HR.out.trans (by unfold Cn.recv;rw [if_pos h0]));replace HT:=hid (HT.out.trans (if_pos h0));replace HF:=hid (HF.out.trans (if_pos h0));replace HE:=hid (HE.out.trans (if_pos h0));have hd0:decide (n<0)=true:=decide_eq_true h0;clear h0;go_wp2_with fail
  (try simp only [Exit.inBlock,Exit.then])
  refine bodyPost_ret (results_tmp4 rfl _ _ _) rfl ?_;exact ⟨_,by rw [HT.out,HF.out,HE.out];rfl,by rw [HR.out];exact OwnS.nil _ _,by rw [HR.out];exact HS.out.cn,HS.out.ch⟩
 have H0:=hid h0;have hd0:decide (n<0)=false:=decide_eq_false h0;clear h0;have H0N:=hid (show ¬ n<0 by have:=H0.out;omega);replace HT:=hid (HT.out.trans (if_neg (by have:=H0N.out;omega)));replace HF:=hid (HF.out.trans (if_neg (by have:=H0N.out;omega)));replace HR:=hid (show R=if c.bx.takeS n=[] then (c.takeC n,[]) else if (c.takeC n).growsB (c.takeC n).mss=false∨canRecv (c.takeC n).st=false then (c.takeC n,[]) else (c.takeC n).ackNow.push now from HR.out.trans (by unfold Cn.recv;rw [if_neg (by have:=H0N.out;omega)];rfl));have HOD:=hid (show (c.takeC n).Ok from HO.out.take n);have HEE:=hid (show c.recvE n=((c.takeC n).reached&&decide ((c.takeC n).bx.nx-(c.takeC n).bx.rd=0)) from rfl);have HST:=hid (show (c.takeC n).st=c.st/\(c.takeC n).failure=c.failure from ⟨rfl,rfl⟩);have c11:=HS.out.cn.cell 11 (.pointer (some ⟨f.X,0,none⟩)) rfl;go_wp2_with fail;clear c11;refine (take_any f.X f.R 0 c.bx n _ HS.out.cn.bx HO.out.bx).mono ?_;rintro e w2 ⟨rfl,hx,hch⟩;have hch2:Chg2 f.X f.R _ w2:=.of1 hch;replace HS:=hid (show Lw f w (.slice none 0 0) [] (c.takeC n) w2 from HS.out.call (HS.out.cn.onX hx hch2) (.ofX hch2));clear hx hch hch2;generalize hd:c.takeC n=d at HS HOD HR HEE HST;clear hd;obtain ⟨S,hS⟩:∃ S,S=c.bx.takeS n:=⟨_,rfl⟩;rw [←hS] at HT HR ⊢;have HTS:=hid hS;clear hS;go_wp2_with fail;refine (treached_any f d _ HS.out.cn).mono ?_;rintro e w3 ⟨rfl,hb⟩;replace HS:=hid (HS.out.bel hb);clear hb;by_cases hr:d.reached=true
 ·have hrd:=hr;have HRC:=hid hr;clear hr;have c11:=HS.out.cn.cell 11 (.pointer (some ⟨f.X,0,none⟩)) rfl;go_wp2_with fail;clear c11;refine (len_any f.X f.R 0 d.bx _ HS.out.cn.bx HOD.out.bx).mono ?_;rintro e w4 ⟨rfl,rfl⟩;replace HS:=hid (HS.out.bel (Below.refl _ _).drew);generalize hwd:World.drew _=w5 at HS ⊢;clear hwd;clear hrd;by_cases hl:d.bx.nx-d.bx.rd=0
  focus
   have hld:((d.bx.nx-d.bx.rd)==0)=true:=beq_iff_eq.2 hl;have HEV:=hid (show c.recvE n=true by rw [HEE.out,HRC.out,decide_eq_true hl];rfl);clear hl;have HE1:=HE;by_cases hse:S=[]
   ·have HSE:=hid hse;subst hse;replace HR:=hid (HR.out.trans (by rw [if_pos rfl]));go_wp2_with fail;refine (tclosed_any f d _ HS.out.cn).mono ?_;rintro e w6 ⟨rfl,hb⟩;replace HS:=hid (HS.out.bel hb);clear hb;by_cases hz:d.st=0
    focus
     have HZ:=hid hz;have hzd:decide (d.st=0)=true:=decide_eq_true hz;clear hz;have HE0:=hid (show c.recvErr n=0 by unfold Cn.recvErr;rw [if_neg (by have:=H0N.out;omega),if_neg (fun h=>by have:=HEV.out.symm.trans h.2.2;cases this)])
    rotate_left 1
    focus
     have HZ:=hid hz;have hzd:decide (d.st=0)=false:=decide_eq_false hz;clear hz;have HE0:=hid (show c.recvErr n=0 by unfold Cn.recvErr;rw [if_neg (by have:=H0N.out;omega),if_neg (fun h=>HZ.out (HST.out.1.trans h.2.1))])
    all_goals
     replace HF:=hid (HF.out.trans ((if_pos (show c.recvErr n=0 from HE0.out)).trans HEV.out));replace HE:=hid (HE1.out.trans HE0.out);go_wp2_with fail
     (try simp only [Exit.inBlock,Exit.then])
     refine bodyPost_ret (results_tmp4 rfl _ _ _) rfl ?_;exact ⟨_,by rw [HT.out,HF.out,HE.out];rfl,by rw [HR.out];exact OwnS.nil _ _,by rw [HR.out];exact HS.out.cn,HS.out.ch⟩
  rotate_left 1
  focus
   have hld:((d.bx.nx-d.bx.rd)==0)=false:=beq_eq_false_iff_ne.2 hl;have HEV:=hid (show c.recvE n=false by rw [HEE.out,HRC.out,decide_eq_false hl];rfl);clear hl;have HE1:=HE;by_cases hse:S=[]
   ·have HSE:=hid hse;subst hse;replace HR:=hid (HR.out.trans (by rw [if_pos rfl]));go_wp2_with fail;refine (tclosed_any f d _ HS.out.cn).mono ?_;rintro e w6 ⟨rfl,hb⟩;replace HS:=hid (HS.out.bel hb);clear hb;by_cases hz:d.st=0
    ·have HZ:=hid hz;have hzd:decide (d.st=0)=true:=decide_eq_true hz;clear hz;have HE0:=hid (show c.recvErr n=c.failure by unfold Cn.recvErr;rw [if_neg (by have:=H0N.out;omega),if_pos ⟨HTS.out.symm,HST.out.1.symm.trans HZ.out,HEV.out⟩]);have HNZ:=hid (show c.failure≠0 by unfold Cn.failure;split;assumption;decide);replace HF:=hid (HF.out.trans (if_neg (by rw [HE0.out];exact HNZ.out)));replace HE:=hid (HE1.out.trans (HE0.out.trans HST.out.2.symm));go_wp2_with fail;refine (tfailure_any f d _ HS.out.cn).mono ?_;rintro e w7 ⟨rfl,hb⟩;replace HS:=hid (HS.out.bel hb);clear hb;go_wp2_with fail
     (try simp only [Exit.inBlock,Exit.then])
     refine bodyPost_ret (results_tmp4 rfl _ _ _) rfl ?_;exact ⟨_,by rw [HT.out,HF.out,HE.out];rfl,by rw [HR.out];exact OwnS.nil _ _,by rw [HR.out];exact HS.out.cn,HS.out.ch⟩
    have HZ:=hid hz;have hzd:decide (d.st=0)=false:=decide_eq_false hz;clear hz;have HE0:=hid (show c.recvErr n=0 by unfold Cn.recvErr;rw [if_neg (by have:=H0N.out;omega),if_neg (fun h=>HZ.out (HST.out.1.trans h.2.1))]);replace HF:=hid (HF.out.trans ((if_pos (show c.recvErr n=0 from HE0.out)).trans HEV.out));replace HE:=hid (HE1.out.trans HE0.out);go_wp2_with fail
    (try simp only [Exit.inBlock,Exit.then])
    refine bodyPost_ret (results_tmp4 rfl _ _ _) rfl ?_;exact ⟨_,by rw [HT.out,HF.out,HE.out];rfl,by rw [HR.out];exact OwnS.nil _ _,by rw [HR.out];exact HS.out.cn,HS.out.ch⟩
  all_goals
   obtain ⟨b,S',rfl⟩:=List.exists_cons_of_ne_nil hse;clear hse;replace HR:=hid (HR.out.trans (by rw [if_neg (List.cons_ne_nil b S')]));have HE0:=hid (show c.recvErr n=0 by unfold Cn.recvErr;rw [if_neg (by have:=H0N.out;omega),if_neg (fun h=>by have:=HTS.out.trans h.1;cases this)]);replace HF:=hid (HF.out.trans ((if_pos (show c.recvErr n=0 from HE0.out)).trans HEV.out));replace HE:=hid (HE1.out.trans HE0.out);go_wp2_with fail;refine wp_region_held_drew (S:=(fun W:World=>W.cell? ⟨f.C,7,none⟩=some (.int .i64 d.mss))) (by kernel_rfl) (HS.out.cn.cell 7 (.int .i64 d.mss) rfl) (fun hZ=> ?_);replace HS:=hid (HS.out.bel (Below.refl _ _).drew);generalize hwd:World.drew _=w7d at HS hZ ⊢;clear hwd;refine wpT 0 ?_;refine wpT 1 ?_;refine wpT 2 ?_;refine wpT 3 ?_;refine wpT 4 ?_;refine wpT 5 ?_;refine wpT 6 ?_;refine wpT 7 ?_;refine wpR 8 fun Kq hKq=> ?_;go_simp;refine (tgrown_any f d d.mss _ HS.out.cn HOD.out.bx (by have:=HOD.out.ann;omega) (by have:=HOD.out.room;omega)).mono ?_;rintro e w8 ⟨rfl,hb⟩;replace HS:=hid (HS.out.bel hb);clear hb;go_simp;refine hKq.out _ _ (HS.out.cn.cell 7 (.int .i64 d.mss) rfl) fun hI=>wpA ?_;clear hKq Kq hZ;have hZ:=hI;clear hI;refine wpT 9 ?_;refine wpT 10 ?_;refine wpT 11 ?_;refine wpT 12 ?_;refine wpT 13 ?_;refine wpAnyH_done (by kernel_rfl) ?_ _;clear hZ;by_cases hg:d.growsB d.mss=true
   ·have hgd:=hg;have HG:=hid hg;clear hg;have c28:=HS.out.cn.cell 28 (.int .i64 d.st) rfl;go_wp2_with fail;clear c28 hgd;refine (canReceive_any d.st _).mono ?_;rintro e w9 ⟨rfl,rfl⟩;by_cases hk:canRecv d.st=true
    ·have hkd:canR d.st=true:=hk;replace HR:=hid (HR.out.trans (by rw [if_neg (by rintro (h | h);(have:=HG.out.symm.trans h;cases this);(have:=hk.symm.trans h;cases this))]));clear hk;go_wp2_with fail;refine (tack_any f d _ HS.out.cn).mono ?_;rintro e w9 ⟨rfl,hc,hch⟩;replace HS:=hid (HS.out.call hc hch);clear hc hch;go_wp2_with fail;refine (tpush_any f d.ackNow now _ HS.out.cn HOD.out.ackNow HN.out).mono ?_;rintro e wz ⟨v,rfl,hl,hc,hch⟩;have HL:=hid (OwnS.low hl HS.out.ch.size);have HC8:=hid hc;have HX8:=hid (HS.out.ch.trans hch);clear hl hc hch;go_wp2_with fail
     (try simp only [Exit.inBlock,Exit.then])
     refine bodyPost_ret (results_tmp4 rfl _ _ _) rfl ?_;exact ⟨_,by rw [HT.out,HF.out,HE.out];rfl,by rw [HR.out];exact HL.out,by rw [HR.out];exact HC8.out,HX8.out⟩
    have hkd:canR d.st=false:=by cases hq:canR d.st with | false=>rfl | true=>exact absurd hq hk
    replace HR:=hid (HR.out.trans (by rw [if_pos (.inr (show canRecv d.st=false from hkd))]));clear hk;go_wp2_with fail
    (try simp only [Exit.inBlock,Exit.then])
    refine bodyPost_ret (results_tmp4 rfl _ _ _) rfl ?_;exact ⟨_,by rw [HT.out,HF.out,HE.out];rfl,by rw [HR.out];exact OwnS.nil _ _,by rw [HR.out];exact HS.out.cn,HS.out.ch⟩
   have hgd:d.growsB d.mss=false:=by simpa using hg
   replace HR:=hid (HR.out.trans (by rw [if_pos (.inl hgd)]));clear hg;go_wp2_with fail
   (try simp only [Exit.inBlock,Exit.then])
   refine bodyPost_ret (results_tmp4 rfl _ _ _) rfl ?_;exact ⟨_,by rw [HT.out,HF.out,HE.out];rfl,by rw [HR.out];exact OwnS.nil _ _,by rw [HR.out];exact HS.out.cn,HS.out.ch⟩
 have hrd:d.reached=false:=by simpa using hr
 have HRC:=hid hrd;clear hr;have HEV:=hid (show c.recvE n=false by rw [HEE.out,HRC.out];rfl);have HE1:=HE;by_cases hse:S=[]
 ·have HSE:=hid hse;subst hse;replace HR:=hid (HR.out.trans (by rw [if_pos rfl]));go_wp2_with fail;refine (tclosed_any f d _ HS.out.cn).mono ?_;rintro e w6 ⟨rfl,hb⟩;replace HS:=hid (HS.out.bel hb);clear hb;by_cases hz:d.st=0
  ·have HZ:=hid hz;have hzd:decide (d.st=0)=true:=decide_eq_true hz;clear hz;have HE0:=hid (show c.recvErr n=c.failure by unfold Cn.recvErr;rw [if_neg (by have:=H0N.out;omega),if_pos ⟨HTS.out.symm,HST.out.1.symm.trans HZ.out,HEV.out⟩]);have HNZ:=hid (show c.failure≠0 by unfold Cn.failure;split;assumption;decide);replace HF:=hid (HF.out.trans (if_neg (by rw [HE0.out];exact HNZ.out)));replace HE:=hid (HE1.out.trans (HE0.out.trans HST.out.2.symm));go_wp2_with fail;refine (tfailure_any f d _ HS.out.cn).mono ?_;rintro e w7 ⟨rfl,hb⟩;replace HS:=hid (HS.out.bel hb);clear hb;go_wp2_with fail
   (try simp only [Exit.inBlock,Exit.then])
   refine bodyPost_ret (results_tmp4 rfl _ _ _) rfl ?_;exact ⟨_,by rw [HT.out,HF.out,HE.out];rfl,by rw [HR.out];exact OwnS.nil _ _,by rw [HR.out];exact HS.out.cn,HS.out.ch⟩
  have HZ:=hid hz;have hzd:decide (d.st=0)=false:=decide_eq_false hz;clear hz;have HE0:=hid (show c.recvErr n=0 by unfold Cn.recvErr;rw [if_neg (by have:=H0N.out;omega),if_neg (fun h=>HZ.out (HST.out.1.trans h.2.1))]);replace HF:=hid (HF.out.trans ((if_pos (show c.recvErr n=0 from HE0.out)).trans HEV.out));replace HE:=hid (HE1.out.trans HE0.out);go_wp2_with fail
  (try simp only [Exit.inBlock,Exit.then])
  refine bodyPost_ret (results_tmp4 rfl _ _ _) rfl ?_;exact ⟨_,by rw [HT.out,HF.out,HE.out];rfl,by rw [HR.out];exact OwnS.nil _ _,by rw [HR.out];exact HS.out.cn,HS.out.ch⟩
 obtain ⟨b,S',rfl⟩:=List.exists_cons_of_ne_nil hse;clear hse;replace HR:=hid (HR.out.trans (by rw [if_neg (List.cons_ne_nil b S')]));have HE0:=hid (show c.recvErr n=0 by unfold Cn.recvErr;rw [if_neg (by have:=H0N.out;omega),if_neg (fun h=>by have:=HTS.out.trans h.1;cases this)]);replace HF:=hid (HF.out.trans ((if_pos (show c.recvErr n=0 from HE0.out)).trans HEV.out));replace HE:=hid (HE1.out.trans HE0.out);go_wp2_with fail;refine wp_region_held_drew (S:=(fun W:World=>W.cell? ⟨f.C,7,none⟩=some (.int .i64 d.mss))) (by kernel_rfl) (HS.out.cn.cell 7 (.int .i64 d.mss) rfl) (fun hZ=> ?_);replace HS:=hid (HS.out.bel (Below.refl _ _).drew);generalize hwd:World.drew _=w7d at HS hZ ⊢;clear hwd;refine wpT 0 ?_;refine wpT 1 ?_;refine wpT 2 ?_;refine wpT 3 ?_;refine wpT 4 ?_;refine wpT 5 ?_;refine wpT 6 ?_;refine wpT 7 ?_;refine wpR 8 fun Kq hKq=> ?_;go_simp;refine (tgrown_any f d d.mss _ HS.out.cn HOD.out.bx (by have:=HOD.out.ann;omega) (by have:=HOD.out.room;omega)).mono ?_;rintro e w8 ⟨rfl,hb⟩;replace HS:=hid (HS.out.bel hb);clear hb;go_simp;refine hKq.out _ _ (HS.out.cn.cell 7 (.int .i64 d.mss) rfl) fun hI=>wpA ?_;clear hKq Kq hZ;have hZ:=hI;clear hI;refine wpT 9 ?_;refine wpT 10 ?_;refine wpT 11 ?_;refine wpT 12 ?_;refine wpT 13 ?_;refine wpAnyH_done (by kernel_rfl) ?_ _;clear hZ;by_cases hg:d.growsB d.mss=true
 ·have hgd:=hg;have HG:=hid hg;clear hg;have c28:=HS.out.cn.cell 28 (.int .i64 d.st) rfl;go_wp2_with fail;clear c28 hgd;refine (canReceive_any d.st _).mono ?_;rintro e w9 ⟨rfl,rfl⟩;by_cases hk:canRecv d.st=true
  ·have hkd:canR d.st=true:=hk;replace HR:=hid (HR.out.trans (by rw [if_neg (by rintro (h | h);(have:=HG.out.symm.trans h;cases this);(have:=hk.symm.trans h;cases this))]));clear hk;go_wp2_with fail;refine (tack_any f d _ HS.out.cn).mono ?_;rintro e w9 ⟨rfl,hc,hch⟩;replace HS:=hid (HS.out.call hc hch);clear hc hch;go_wp2_with fail;refine (tpush_any f d.ackNow now _ HS.out.cn HOD.out.ackNow HN.out).mono ?_;rintro e wz ⟨v,rfl,hl,hc,hch⟩;have HL:=hid (OwnS.low hl HS.out.ch.size);have HC8:=hid hc;have HX8:=hid (HS.out.ch.trans hch);clear hl hc hch;go_wp2_with fail
   (try simp only [Exit.inBlock,Exit.then])
   refine bodyPost_ret (results_tmp4 rfl _ _ _) rfl ?_;exact ⟨_,by rw [HT.out,HF.out,HE.out];rfl,by rw [HR.out];exact HL.out,by rw [HR.out];exact HC8.out,HX8.out⟩
  have hkd:canR d.st=false:=by cases hq:canR d.st with | false=>rfl | true=>exact absurd hq hk
  replace HR:=hid (HR.out.trans (by rw [if_pos (.inr (show canRecv d.st=false from hkd))]));clear hk;go_wp2_with fail
  (try simp only [Exit.inBlock,Exit.then])
  refine bodyPost_ret (results_tmp4 rfl _ _ _) rfl ?_;exact ⟨_,by rw [HT.out,HF.out,HE.out];rfl,by rw [HR.out];exact OwnS.nil _ _,by rw [HR.out];exact HS.out.cn,HS.out.ch⟩
 have hgd:d.growsB d.mss=false:=by simpa using hg
 replace HR:=hid (HR.out.trans (by rw [if_pos (.inl hgd)]));clear hg;go_wp2_with fail
 (try simp only [Exit.inBlock,Exit.then])
 refine bodyPost_ret (results_tmp4 rfl _ _ _) rfl ?_;exact ⟨_,by rw [HT.out,HF.out,HE.out];rfl,by rw [HR.out];exact OwnS.nil _ _,by rw [HR.out];exact HS.out.cn,HS.out.ch⟩
end
section
open Go.RowKit Go.Shelf
def sdL (f:Fp) (s:Sd):List Value:=[.pointer (some ⟨f.C,0,none⟩),.string ⟨s.all.toArray⟩,.int .i64 s.sent,.string ⟨s.got.toArray⟩,.bool s.fin,.bool s.closed]
def SdRow (F:Nat) (f:Fp) (s:Sd) (W:World):Prop:=W.heap[F]? =some (.cells (sdL f s).toArray 36 (0,0))
theorem SdRow.lt {F:Nat} {f:Fp} {s:Sd} {W:World} (h:SdRow F f s W):F<W.heap.size:=(Array.getElem?_eq_some_iff.1 h).1
theorem SdRow.cell {F:Nat} {f:Fp} {s:Sd} {W:World} (h:SdRow F f s W) (i:Nat) (v:Value) (hv:(sdL f s)[i]? =some v):W.cell? ⟨F,i,none⟩=some v:=by
 rw [cell_of_row _ _ _ _ _ _ h]
 simpa using hv
structure Ps (N:Nat) (t:Ft) (w:World) (F:Nat) (f:Fp) (s:Sd) (t1:Ft) (q:Pr) (W:World):Prop where
 st:PrSt N t w t1 q W
 row:SdRow F f s W
 nd:¬ t1.D F
 lo:w.heap.size<=F
namespace Ps
variable {N F : Nat} {f : Fp} {s : Sd} {t t1 t2 : Ft} {q q' : Pr} {w W W' : World}
theorem new (h:PrSt N t w t1 q W) (f:Fp) (s:Sd):Ps N t w W.heap.size f s t1 q (W.alloc (.cells (sdL f s).toArray 36)) :=
 ⟨h.bel ((Below.refl W.heap.size W).alloc (Nat.le_refl _) _),heap_alloc_new _ _,fun e=>Nat.lt_irrefl _ (h.pa.inD _ e).1,h.size⟩
theorem bel (h:Ps N t w F f s t1 q W) (hb:Below W.heap.size W W'):Ps N t w F f s t1 q W':=⟨h.st.bel hb,(hb.block F h.row.lt).trans h.row,h.nd,h.lo⟩
theorem step (h:Ps N t w F f s t1 q W) (k:PrSt N t1 W t2 q' W'):Ps N t w F f s t2 q' W' :=
 ⟨h.st.trans k,(k.fr.block F h.row.lt h.nd).trans h.row,fun e=>by
  rcases k.sub F e with h1 | h1
  ·exact h.nd h1
  ·exact Nat.lt_irrefl _ (Nat.lt_of_lt_of_le h.row.lt h1),h.lo⟩
theorem set (h:Ps N t w F f s t1 q W) (i:Nat) (v:Value) (q':Pr) (he:(prCells t1 q).setIfInBounds i v=prCells t1 q') (e1:q'.a.c=q.a.c) (e2:q'.b.c=q.b.c) (e3:q'.wire=q.wire) (e4:q'.log=q.log) (e5:q'.fates=q.fates):Ps N t w F f s t1 q' (W.setCell ⟨t.B,i,none⟩ v):=by
 rw [←h.st.eB];exact h.step (h.st.pa.set i v q' he e1 e2 e3 e4 e5)
end Ps
theorem setC_same (p:Pr) (i:Bool) {c:Cn} (h:c=(p.sd i).c):p.setC i c=p:=by subst h;cases i <;> rfl
end
section
set_option maxHeartbeats 8000000
set_option maxRecDepth 100000
open Go.RowKit Go.Shelf
theorem tshutP_any (N:Nat) (t:Ft) (p:Pr) (i:Bool) (w:World) (q r:Int) (h:PrAt N t p w) (hk:Pr.Fit p q r) (hq:q<=90000000) (hr:r<=90000000000) (hm:p.Ml) :
  Calls Tryz.prog 43 #[.pointer (some ⟨t.B,0,none⟩),.int .i64 (bI i)] w (PutOut N t w (p.shut i)):=by
 cases i
 ·have y0:w.cell? ⟨t.B,0,none⟩=some (.pointer (some ⟨t.fa.C,0,none⟩)):=h.cell 0 _ rfl;have y1:w.cell? ⟨t.B,1,none⟩=some (.string ⟨p.a.all.toArray⟩):=h.cell 1 _ rfl;have y2:w.cell? ⟨t.B,2,none⟩=some (.int .i64 p.a.sent):=h.cell 2 _ rfl;have y3:w.cell? ⟨t.B,3,none⟩=some (.string ⟨p.a.got.toArray⟩):=h.cell 3 _ rfl;have y4:w.cell? ⟨t.B,4,none⟩=some (.bool p.a.fin):=h.cell 4 _ rfl;have y5:w.cell? ⟨t.B,5,none⟩=some (.bool p.a.closed):=h.cell 5 _ rfl;have HN64:=hid hk.in64;have HKF:=hid (Pr.shut_fit hk false);have HOK:=hid hk.a.c;have HML:=hid hm;have HWL:=hid hk.wlen;have HNOW:=hid hk.now;have HPA:=hid h;show Calls _ _ #[.pointer (some ⟨t.B,0,none⟩),.int .i64 0] _ _;clear h hk hm;obtain ⟨R,hR⟩:∃ R,R=p.shut false:=⟨_,rfl⟩;rw [←hR];have HR:=hid hR;clear hR
  go_enter Tryz.func43,Tryz.ntmps43
  by_cases hcl:p.a.closed=true
  ·go_wp2_with fail;refine bodyPost_ret (results_none rfl _ _ _) rfl ⟨rfl,t,?_⟩;rw [HR.out];have e:p.shut false=p:=by unfold Pr.shut;exact if_pos hcl
   rw [e];exact HPA.out.alloc _
  replace hcl:p.a.closed=false:=by simpa using hcl
  go_wp2_with fail;clear y0 y1 y2 y3 y4 y5;change Code.wp _ _ _ _ (w.alloc (.cells (sdL t.fa ({ p.a with closed:=false }:Sd)).toArray 36));have HS:=hid (Ps.new (PrSt.start HPA.out) t.fa ({ p.a with closed:=false }:Sd));generalize hF:w.heap.size=F at HS ⊢;generalize w.alloc (.cells (sdL t.fa ({ p.a with closed:=false }:Sd)).toArray 36)=w1 at HS ⊢;have HCL:=hid hcl;clear hcl;refine wp_region_held_drew (S:=(fun W:World=>W.cell? ⟨F,0,none⟩=some (.pointer (some ⟨t.fa.C,0,none⟩))/\W.cell? ⟨t.B,13,none⟩=some (.int .i64 p.now))) (by kernel_rfl) (⟨HS.out.row.cell 0 _ rfl,HS.out.st.cell 13 (.int .i64 p.now) rfl⟩) (fun hZ=> ?_);replace HS:=hid (HS.out.bel (Below.refl _ _).drew);generalize w1.drew=w3 at HS hZ ⊢;refine wpT 0 ?_;refine wpT 1 ?_;refine wpT 2 ?_;refine wpT 3 ?_;refine wpT 4 ?_;refine wpT 5 ?_;refine wpR 6 fun Kq hKq=> ?_;go_simp;refine (tclose_any t.fa p.a.c p.now _ HS.out.st.pa.a HOK.out HN64.out).mono ?_;rintro e w4 ⟨v,rfl,hl,hc,hch⟩;have k4:=HS.out.st.pa.onC false t.fa.G _ hc hch (.inl rfl);replace HS:=hid (HS.out.step k4);have HOL:=hid hl;clear hl hc hch k4;dsimp only [closeVals];go_simp;refine hKq.out _ _ (⟨HS.out.row.cell 0 _ rfl,HS.out.st.cell 13 (.int .i64 p.now) rfl⟩) fun hI=>wpA ?_;clear hKq Kq hZ;have hZ:=hI;clear hI;refine wpT 7 ?_;refine wpT 8 ?_;refine wpT 9 ?_;refine wpT 10 ?_;refine wpT 11 ?_;refine wpAnyH_done (by kernel_rfl) ?_ _;clear hZ;by_cases he:p.a.c.closeE=0
  ·have HSE:=hid (show p.shut false=(p.setSd false { p.a with c:=(p.a.c.close p.now).1,closed:=true }).put false (p.a.c.close p.now).2 from by unfold Pr.shut;dsimp only;rw [if_neg (by show ¬ (p.a.closed=true);rw [HCL.out];decide),if_neg (show ¬ (p.sd false).c.closeE≠0 from fun hh=>hh he)];rfl);have c5:w4.cell? ⟨t.B,5,none⟩=some (.bool p.a.closed):=HS.out.st.cell 5 _ rfl;have f5:=HS.out.st.free 5;have HT:=hid (HS.out.set 5 (.bool true) (p.setSd false { p.a with c:=(p.a.c.close p.now).1,closed:=true }) rfl rfl rfl rfl rfl rfl);go_wp2_with fail;clear c5 f5;generalize hw5:w4.setCell ⟨t.B,5,none⟩ (.bool true)=w5 at HT ⊢;have HOL2:=hid (show OwnS w5 _ v _ from by rw [←hw5];exact HOL.out.prFr HS.out.st.pa (by rw [←HS.out.st.eB];exact (HS.out.st.pa.set 5 (.bool true) (p.setSd false { p.a with c:=(p.a.c.close p.now).1,closed:=true }) rfl rfl rfl rfl rfl rfl).fr));clear hw5;have HBD:=hid (put_bd2 (X:=p.setSd false { p.a with c:=(p.a.c.close p.now).1,closed:=true }) (i:=false) (l:=(p.a.c.close p.now).2) (by rw [←HSE.out];exact HKF.out) (by have:=HWL.out;show p.wire.length<=400000000;omega) (HML.out.setSd false _) (by omega));have HPUT:=tput_any N _ _ false _ v _ _ HT.out.st.pa HOL2.out HBD.out.1 HBD.out.2.1 HBD.out.2.2 HNOW.out;rw [HT.out.st.eB,show bI false=0 from rfl] at HPUT;refine HPUT.mono ?_;rintro e w6 ⟨rfl,t6,k6⟩;go_wp2_with fail
   go_end0
   exact ⟨rfl,t6,by rw [HR.out,HSE.out];exact HT.out.st.trans k6⟩
  have hne:¬ p.a.c.closeE=0:=he;go_wp2_with fail
  go_end0
  have e1:(p.a.c.close p.now).1=p.a.c:=by unfold Cn.closeE at hne;unfold Cn.close;split at hne;(rename_i hx;rw [if_pos hx]);exact absurd rfl hne
  have e2:p.shut false=p:=by unfold Pr.shut;dsimp only;rw [if_neg (by show ¬ (p.a.closed=true);rw [HCL.out];decide),if_pos (show (p.sd false).c.closeE≠0 from hne)]
  refine ⟨rfl,?_⟩;rw [HR.out,e2];have:=HS.out.st;rw [setC_same p false (show (p.a.c.close p.now).1=(p.sd false).c from e1)] at this;exact ⟨_,this⟩
 have y0:w.cell? ⟨t.B,6,none⟩=some (.pointer (some ⟨t.fb.C,0,none⟩)):=h.cell 6 _ rfl;have y1:w.cell? ⟨t.B,7,none⟩=some (.string ⟨p.b.all.toArray⟩):=h.cell 7 _ rfl;have y2:w.cell? ⟨t.B,8,none⟩=some (.int .i64 p.b.sent):=h.cell 8 _ rfl;have y3:w.cell? ⟨t.B,9,none⟩=some (.string ⟨p.b.got.toArray⟩):=h.cell 9 _ rfl;have y4:w.cell? ⟨t.B,10,none⟩=some (.bool p.b.fin):=h.cell 10 _ rfl;have y5:w.cell? ⟨t.B,11,none⟩=some (.bool p.b.closed):=h.cell 11 _ rfl;have HN64:=hid hk.in64;have HKF:=hid (Pr.shut_fit hk true);have HOK:=hid hk.b.c;have HML:=hid hm;have HWL:=hid hk.wlen;have HNOW:=hid hk.now;have HPA:=hid h;show Calls _ _ #[.pointer (some ⟨t.B,0,none⟩),.int .i64 1] _ _;clear h hk hm;obtain ⟨R,hR⟩:∃ R,R=p.shut true:=⟨_,rfl⟩;rw [←hR];have HR:=hid hR;clear hR
 go_enter Tryz.func43,Tryz.ntmps43
 by_cases hcl:p.b.closed=true
 ·go_wp2_with fail;refine bodyPost_ret (results_none rfl _ _ _) rfl ⟨rfl,t,?_⟩;rw [HR.out];have e:p.shut true=p:=by unfold Pr.shut;exact if_pos hcl
  rw [e];exact HPA.out.alloc _
 replace hcl:p.b.closed=false:=by simpa using hcl
 go_wp2_with fail;clear y0 y1 y2 y3 y4 y5;change Code.wp _ _ _ _ (w.alloc (.cells (sdL t.fb ({ p.b with closed:=false }:Sd)).toArray 36));have HS:=hid (Ps.new (PrSt.start HPA.out) t.fb ({ p.b with closed:=false }:Sd));generalize hF:w.heap.size=F at HS ⊢;generalize w.alloc (.cells (sdL t.fb ({ p.b with closed:=false }:Sd)).toArray 36)=w1 at HS ⊢;have HCL:=hid hcl;clear hcl;refine wp_region_held_drew (S:=(fun W:World=>W.cell? ⟨F,0,none⟩=some (.pointer (some ⟨t.fb.C,0,none⟩))/\W.cell? ⟨t.B,13,none⟩=some (.int .i64 p.now))) (by kernel_rfl) (⟨HS.out.row.cell 0 _ rfl,HS.out.st.cell 13 (.int .i64 p.now) rfl⟩) (fun hZ=> ?_);replace HS:=hid (HS.out.bel (Below.refl _ _).drew);generalize w1.drew=w3 at HS hZ ⊢;refine wpT 0 ?_;refine wpT 1 ?_;refine wpT 2 ?_;refine wpT 3 ?_;refine wpT 4 ?_;refine wpT 5 ?_;refine wpR 6 fun Kq hKq=> ?_;go_simp;refine (tclose_any t.fb p.b.c p.now _ HS.out.st.pa.b HOK.out HN64.out).mono ?_;rintro e w4 ⟨v,rfl,hl,hc,hch⟩;have k4:=HS.out.st.pa.onC true t.fb.G _ hc hch (.inl rfl);replace HS:=hid (HS.out.step k4);have HOL:=hid hl;clear hl hc hch k4;dsimp only [closeVals];go_simp;refine hKq.out _ _ (⟨HS.out.row.cell 0 _ rfl,HS.out.st.cell 13 (.int .i64 p.now) rfl⟩) fun hI=>wpA ?_;clear hKq Kq hZ;have hZ:=hI;clear hI;refine wpT 7 ?_;refine wpT 8 ?_;refine wpT 9 ?_;refine wpT 10 ?_;refine wpT 11 ?_;refine wpAnyH_done (by kernel_rfl) ?_ _;clear hZ;by_cases he:p.b.c.closeE=0
 ·have HSE:=hid (show p.shut true=(p.setSd true { p.b with c:=(p.b.c.close p.now).1,closed:=true }).put true (p.b.c.close p.now).2 from by unfold Pr.shut;dsimp only;rw [if_neg (by show ¬ (p.b.closed=true);rw [HCL.out];decide),if_neg (show ¬ (p.sd true).c.closeE≠0 from fun hh=>hh he)];rfl);have c5:w4.cell? ⟨t.B,11,none⟩=some (.bool p.b.closed):=HS.out.st.cell 11 _ rfl;have f5:=HS.out.st.free 11;have HT:=hid (HS.out.set 11 (.bool true) (p.setSd true { p.b with c:=(p.b.c.close p.now).1,closed:=true }) rfl rfl rfl rfl rfl rfl);go_wp2_with fail;clear c5 f5;generalize hw5:w4.setCell ⟨t.B,11,none⟩ (.bool true)=w5 at HT ⊢;have HOL2:=hid (show OwnS w5 _ v _ from by rw [←hw5];exact HOL.out.prFr HS.out.st.pa (by rw [←HS.out.st.eB];exact (HS.out.st.pa.set 11 (.bool true) (p.setSd true { p.b with c:=(p.b.c.close p.now).1,closed:=true }) rfl rfl rfl rfl rfl rfl).fr));clear hw5;have HBD:=hid (put_bd2 (X:=p.setSd true { p.b with c:=(p.b.c.close p.now).1,closed:=true }) (i:=true) (l:=(p.b.c.close p.now).2) (by rw [←HSE.out];exact HKF.out) (by have:=HWL.out;show p.wire.length<=400000000;omega) (HML.out.setSd true _) (by omega));have HPUT:=tput_any N _ _ true _ v _ _ HT.out.st.pa HOL2.out HBD.out.1 HBD.out.2.1 HBD.out.2.2 HNOW.out;rw [HT.out.st.eB,show bI true=1 from rfl] at HPUT;refine HPUT.mono ?_;rintro e w6 ⟨rfl,t6,k6⟩;go_wp2_with fail
  go_end0
  exact ⟨rfl,t6,by rw [HR.out,HSE.out];exact HT.out.st.trans k6⟩
 have hne:¬ p.b.c.closeE=0:=he;go_wp2_with fail
 go_end0
 have e1:(p.b.c.close p.now).1=p.b.c:=by unfold Cn.closeE at hne;unfold Cn.close;split at hne;(rename_i hx;rw [if_pos hx]);exact absurd rfl hne
 have e2:p.shut true=p:=by unfold Pr.shut;dsimp only;rw [if_neg (by show ¬ (p.b.closed=true);rw [HCL.out];decide),if_pos (show (p.sd true).c.closeE≠0 from hne)]
 refine ⟨rfl,?_⟩;rw [HR.out,e2];have:=HS.out.st;rw [setC_same p true (show (p.b.c.close p.now).1=(p.sd true).c from e1)] at this;exact ⟨_,this⟩
end
end Go.Proofs.YtclkcmidhhfdmaaGreatDoor
