import Derived.Test.YtclkcmidhhfdmaaGreatDoorKb35
import Derived.Test.YtclkcmidhhfdmaaGreatDoorKb36
namespace Go.Proofs.YtclkcmidhhfdmaaGreatDoor
open Lib (hid)
section
set_option maxHeartbeats 8000000
set_option maxRecDepth 100000
open Go.RowKit Go.Shelf
theorem Sw.pre {f:Fp} {c:Cn} {w0 W V:World} {B:Nat} {x:SgM} (h:Sw f W B x c V) (hx:ChgF f w0 W):Sw f w0 B x c V:=⟨h.cn,hx.trans h.ch,h.row,h.bl,h.top⟩
def Cn.ackE (r:Cn) (una ack:Int):Cn:=if 0<ack-max una 1 then { r with cg:=r.cg.acked (ack-max una 1) ack } else r
def Cn.ackA (r:Cn) (now una ack:Int):Cn:=if una<ack then (Cn.ackE { r with dl:=al0,tm:=r.tm.acked now ack } una ack).drop ack else r
def Cn.ackL (b:Cn) (ack sacked flight:Int):Cn:=if 0<sacked/\b.mark<=ack/\b.sc.lost b.mss≠[] then { b with cg:=b.cg.lost flight b.next } else b
def Cn.ackD (c:Cn) (now:Int) (s:Sg) (ack:Int):Cn:=(((c.report ack s.bl).ackA now c.una ack).announce ack s.win).ackL ack (c.repN ack s.bl) c.flight
def Cn.acked0 (c:Cn) (now:Int) (s:Sg) (ack:Int):Cn:=if ack<c.una then c else if c.una<=c.last/\c.last<ack then (c.ackD now s ack).step now 7 else c.ackD now s ack
theorem Cn.acked_0 (c:Cn) (now:Int) (s:Sg) (ack:Int):c.acked now s ack=Cn.acked0 { c with tries:=0 } now s ack:=rfl
namespace Cn.Ok
variable {c : Cn}
theorem ackE (h:c.Ok) (una ack:Int):(c.ackE una ack).Ok:=by
 unfold Cn.ackE;split
 ·exact h.onCg (Cg.acked_ok h.cg _ _)
 exact h
theorem ackA (h:c.Ok) (now una ack:Int):(c.ackA now una ack).Ok:=by
 unfold Cn.ackA;split
 ·exact (((h.onDl al0_ok).onTm (Tm.acked_fit h.tm now ack)).ackE _ _).drop _
 exact h
theorem ackL (h:c.Ok) (ack sacked flight:Int):(c.ackL ack sacked flight).Ok:=by
 unfold Cn.ackL;split
 ·exact h.onCg (Cg.lost_ok h.cg _ h.in64n)
 exact h
end Cn.Ok
theorem repN_bd {c:Cn} (h:c.Ok) {ack:Int} {bl:List Sp} (ha: -2147483648<=ack/\ack<=2147483647): -8796093022208<=c.repN ack bl/\c.repN ack bl<=8796093022208:=by
 unfold Cn.repN;have h1:=ackN_bd h.sc (R:=repS c.sacks c.next c.cf.iss bl) ha;have h2:=advF_bd (ack:=ack) h.sc.csk c.sc.sk.length;rw [List.take_length] at h2;have:=h.una;omega
theorem tacked_any (f:Fp) (c':Cn) (now:Int) (s:Sg) (ack:Int) (a:Option Addr) (cap:Nat) (w:World) (h:CnAt f c' w) (ok:c'.Ok) (hn:In64 now) (hs:s.Ok) (hb:BlIn w a s.bl) (ha: -2147483648<=ack/\ack<=2147483647) :
  Calls Tryz.prog 112 #[.pointer (some ⟨f.C,0,none⟩),.int .i64 now,sgV s a cap,.int .i64 ack] w fun e w'=>e= .returned (.tuple #[])/\CnAt f (c'.acked now s ack) w'/\ChgF f w w':=by
 have HN:=hid hn;have HWN:=hid hs.win;have HBL:=hid hs.blen;have hlt:=h.lt;have c33:=h.cell 33 (.int .i64 c'.tries) rfl;have f33:=h.free 33;have hA:=h.set 33 (.int .i64 0) { c' with tries:=0 } rfl rfl rfl rfl rfl;have hX:ChgF f w (w.setCell ⟨f.C,33,none⟩ (.int .i64 0)):=.ofC ((Chg.refl _ _).setCell 33 _);have hS:=(Sw.start (x:=(s,a,cap)) hA (hb.chgF h hX)).pre hX;rw [World.size_setCell] at hS;have HO:=hid ok.tries0;have HE:=hid (Cn.acked_0 c' now s ack);obtain ⟨c,hc0⟩:∃ c:Cn,c={ c' with tries:=0 }:=⟨_,rfl⟩;rw [←hc0] at hS HO HE;have HS:=hid hS;clear hS hA hX hc0 h hb ok hs hn;unfold sgV;obtain ⟨ha1,ha2⟩:=ha
 go_enter Tryz.func112,Tryz.ntmps112
 go_wp2_with fail;change Calls _ _ _ ((w.setCell ⟨f.C,33,none⟩ (.int .i64 0)).alloc (.cells (sgL (s,a,cap)).toArray 43)) _;generalize ((w.setCell ⟨f.C,33,none⟩ (.int .i64 0)).alloc (.cells (sgL (s,a,cap)).toArray 43))=w1 at HS ⊢;clear c33 f33 hlt;refine (tuna_any f c _ HS.out.cn).mono ?_;rintro e w2 ⟨rfl,hb⟩;replace HS:=hid (HS.out.bel hb);clear hb;have hun:=HO.out.una;obtain ⟨hun0,hun1,hun2⟩:=hun;by_cases h1:ack<c.una
 ·have hd:decide (ack<c.una)=true:=decide_eq_true h1;have H1:=hid h1;clear h1;go_wp2_with fail;exact bodyPost_ret (results_none rfl _ _ _) rfl ⟨rfl,by rw [HE.out];unfold Cn.acked0;rw [if_pos H1.out];exact HS.out.cn,HS.out.ch⟩
 have hd:decide (ack<c.una)=false:=decide_eq_false h1;have H1:=hid h1;clear h1;replace HE:=hid (show c'.acked now s ack=if c.una<=c.last/\c.last<ack then (c.ackD now s ack).step now 7 else c.ackD now s ack by rw [HE.out];exact if_neg H1.out);go_wp2_with fail;refine (tflight_any f c _ HS.out.cn HO.out.sc).mono ?_;rintro e w3 ⟨rfl,hb⟩;replace HS:=hid (HS.out.bel hb);clear hb;clear hd;have hfl:=HO.out.flight;have HLB:=hid (show -1099511627776<=c.base/\c.base<=1099511627776 by have:=HO.out.b0;have:=HO.out.base1;omega);have HLL:=hid (show c.held.length<=1099511627776 by have:=HO.out.hlen;omega);go_wp2_with fail;refine (tlast_any f c _ HS.out.cn HLB.out HLL.out).mono ?_;rintro e w4 ⟨rfl,rfl⟩;replace HS:=hid HS.out.drew;generalize w3.drew=w4 at HS ⊢;have hlast:0<=c.last/\c.last<=1073741824:=by have:=HO.out.b0;have:=HO.out.b1;unfold Cn.last at this ⊢;omega
 go_wp2_with fail;refine wp_region_held_drew (S:=(fun W:World=>W.cell? ⟨f.C,24,none⟩=some (.int .i64 c.cf.iss)/\W.cell? ⟨w.heap.size,11,none⟩=some (.slice a s.bl.length cap))) (by kernel_rfl) (⟨HS.out.cn.cell 24 (.int .i64 c.cf.iss) rfl,HS.out.row.cell 11 (.slice a s.bl.length cap) rfl⟩) (fun hZ=> ?_);replace HS:=hid HS.out.drew;generalize w4.drew=w4d at HS hZ ⊢;refine wpT 0 ?_;refine wpT 1 ?_;refine wpT 2 ?_;refine wpT 3 ?_;refine wpT 4 ?_;refine wpT 5 ?_;refine wpT 6 ?_;refine wpT 7 ?_;refine wpT 8 ?_;refine wpT 9 ?_;refine wpT 10 ?_;refine wpR 11 fun Kq hKq=> ?_;go_simp;refine (treport_any f c ack s.bl a cap _ HS.out.cn HO.out HS.out.bl HBL.out ⟨ha1,ha2⟩).mono ?_;rintro e w5 ⟨rfl,hc,hch⟩;have HR:=hid (HS.out.call hc hch);clear hc hch;go_simp;refine hKq.out _ _ (⟨HR.out.cn.cell 24 (.int .i64 c.cf.iss) rfl,HR.out.row.cell 11 (.slice a s.bl.length cap) rfl⟩) fun hI=>wpA ?_;clear hKq Kq hZ;have hZ:=hI;clear hI;refine wpT 12 ?_;refine wpAnyH_done (by kernel_rfl) ?_ _;clear hZ HS;have HRO:=hid (HO.out.report ack s.bl);have hnb:=repN_bd HO.out (bl:=s.bl) ⟨ha1,ha2⟩;have HDD:=hid (show c.ackD now s ack=(((c.report ack s.bl).ackA now c.una ack).announce ack s.win).ackL ack (c.repN ack s.bl) c.flight from rfl);generalize c.repN ack s.bl=sk at HDD hnb ⊢;generalize c.report ack s.bl=r at HDD HRO HR;have HS:=hid HR.out;clear HR
 go_upto_if 45 with fail
 go_cut [] from 45 to 77 (fun wx=>Sw f w w.heap.size (s,a,cap) (r.ackA now c.una ack) wx)
 case first =>
  by_cases h2:c.una<ack
  ·have HA:=hid (show r.ackA now c.una ack=(Cn.ackE { r with dl:=al0,tm:=r.tm.acked now ack } c.una ack).drop ack from if_pos h2);have c1:=HS.out.cn.cell 1 (.pointer (some ⟨f.T,0,none⟩)) rfl;have c30:=HS.out.cn.cell 30 (.bool r.dl.set) rfl;have c31:=HS.out.cn.cell 31 (.int .i64 r.dl.since) rfl;have c32:=HS.out.cn.cell 32 (.int .i64 r.dl.ticks) rfl;have f30:=HS.out.cn.free 30;have f31:=HS.out.cn.free 31;have f32:=HS.out.cn.free 32;have HS2:=hid (HS.out.call (((HS.out.cn.set 30 (.bool false) { r with dl:=⟨false,r.dl.since,r.dl.ticks⟩ } rfl rfl rfl rfl rfl).set 31 (.int .i64 0) { r with dl:=⟨false,0,r.dl.ticks⟩ } rfl rfl rfl rfl rfl).set 32 (.int .i64 0) { r with dl:=al0 } rfl rfl rfl rfl rfl) (.ofC ((((Chg.refl _ _).setCell 30 _).setCell 31 _).setCell 32 _)));go_wp2_with fail;refine (acked_any f.T r.tm now ack HN.out HRO.out.tm _ HS2.out.cn.tm).mono ?_;rintro e w6 ⟨rfl,ht,hc⟩;replace HS:=hid (HS2.out.call (HS2.out.cn.onT ht hc) (.ofT hc));clear ht hc HS2 c1 c30 c31 c32 f30 f31 f32;have HO2:=hid ((HRO.out.onDl al0_ok).onTm (Tm.acked_fit HRO.out.tm now ack));obtain ⟨d,hdd⟩:∃ d:Cn,d={ r with dl:=al0,tm:=r.tm.acked now ack }:=⟨_,rfl⟩;replace HS:=hid (HS.out.eq (d:=d) hdd);rw [←hdd] at HA HO2;clear hdd
   go_upto_if 63 with fail
   go_cut [] from 63 to 72 (fun wx=>Sw f w w.heap.size (s,a,cap) (d.ackE c.una ack) wx)
   case first =>
    by_cases h3:0<ack-max c.una 1
    ·have HA2:=hid (show d.ackE c.una ack={ d with cg:=d.cg.acked (ack-max c.una 1) ack } from if_pos h3);have c2:=HS.out.cn.cell 2 (.pointer (some ⟨f.G,0,none⟩)) rfl;go_wp2_with fail;refine (cgAcked_any f.G d.cg (ack-max c.una 1) ack HO2.out.cg _ HS.out.cn.cg).mono ?_;rintro e w7 ⟨rfl,hg,hc⟩;replace HS:=hid (HS.out.call (HS.out.cn.onG hg hc) (.ofG hc));clear hg hc;go_wp2_with fail
     go_meet
     case rel=>exact HS.out.eq HA2.out
    have HA2:=hid (show d.ackE c.una ack=d from if_neg h3);go_wp2_with fail
    go_meet
    case rel=>exact HS.out.eq HA2.out
   case rest =>
    replace HS:=hid hcut;have HO3:=hid (HO2.out.ackE c.una ack);generalize d.ackE c.una ack=d2 at HS HA HO3;clear hcut;have HLB2:=hid (show -1099511627776<=d2.base/\d2.base<=1099511627776 by have:=HO3.out.b0;have:=HO3.out.base1;omega);have HLL2:=hid (show d2.held.length<=1099511627776 by have:=HO3.out.hlen;omega);go_wp2_with fail;refine (tdrop_any f d2 ack _ HS.out.cn HLB2.out HLL2.out (by omega)).mono ?_;rintro e w8 ⟨rfl,hc,hch⟩;replace HS:=hid (HS.out.call hc hch);clear hc hch;go_wp2_with fail
    go_meet
    case rel=>exact HS.out.eq HA.out
  have HA:=hid (show r.ackA now c.una ack=r from if_neg h2);go_wp2_with fail
  go_meet
  case rel=>exact HS.out.eq HA.out
 case rest =>
  replace HS:=hid hcut;have HAO:=hid (HRO.out.ackA now c.una ack);generalize r.ackA now c.una ack=d at HS HAO HDD;clear hcut HRO;obtain ⟨hw1,hw2⟩:=HWN.out;go_wp2_with fail;refine wp_region_held_drew (S:=(fun W:World=>W.cell? ⟨w.heap.size,8,none⟩=some (.int .i64 s.win))) (by kernel_rfl) (HS.out.row.cell 8 (.int .i64 s.win) rfl) (fun hZ=> ?_);replace HS:=hid HS.out.drew;generalize wc.drew=wcd at HS hZ ⊢;refine wpT 0 ?_;refine wpT 1 ?_;refine wpT 2 ?_;refine wpT 3 ?_;refine wpT 4 ?_;refine wpT 5 ?_;refine wpR 6 fun Kq hKq=> ?_;go_simp;refine (tannounce_any f d ack s.win _ HS.out.cn (by omega) ⟨hw1,hw2⟩).mono ?_;rintro e w9 ⟨rfl,hc,hch⟩;have HR:=hid (HS.out.call hc hch);clear hc hch;go_simp;refine hKq.out _ _ (HR.out.row.cell 8 (.int .i64 s.win) rfl) fun hI=>wpA ?_;clear hKq Kq hZ;have hZ:=hI;clear hI;refine wpAnyH_done (by kernel_rfl) ?_ _;clear hZ HS;have HBO:=hid (HAO.out.announce (show ack<=1099511562240 by omega) ⟨hw1,hw2⟩);generalize d.announce ack s.win=b at HR HBO HDD;clear HAO;have HS:=hid HR.out;clear HR;obtain ⟨hmk1,hmk2⟩:=HBO.out.mark
  go_upto_region 15 with fail
  go_cut [109] from 84 to 110 (fun v wx=>v= .bool (decide (0<sk/\b.mark<=ack/\b.sc.lost b.mss≠[]))/\Sw f w w.heap.size (s,a,cap) b wx)
  case first =>
   by_cases h4:0<sk
   ·by_cases h5:b.mark<=ack
    ·by_cases h6:b.sc.lost b.mss=[]
     ·have hl0:(b.sc.lost b.mss).length=0:=by rw [h6];rfl
      refine wp_region_held_drew (S:=(fun W:World=>W.cell? ⟨f.C,10,none⟩=some (.int .i64 b.mark)/\W.cell? ⟨f.C,0,none⟩=some (.pointer (some ⟨f.S,0,none⟩))/\W.cell? ⟨f.C,7,none⟩=some (.int .i64 b.mss))) (by kernel_rfl) (⟨HS.out.cn.cell 10 (.int .i64 b.mark) rfl,HS.out.cn.cell 0 (.pointer (some ⟨f.S,0,none⟩)) rfl,HS.out.cn.cell 7 (.int .i64 b.mss) rfl⟩) (fun hZ=> ?_);replace HS:=hid HS.out.drew;generalize w9.drew=w9d at HS hZ ⊢;refine wpT 0 ?_;refine wpT 1 (v:=.bool true) ?_ (hy:=by intro w hSw;(obtain ⟨z0,z1,z2⟩:=hSw);go_simp;(try first | omega | (rw [decide_eq_true_iff];omega)));refine wpT 2 ?_;refine wpT 3 ?_;refine wpT 4 ?_;refine wpT 5 ?_;refine wpT 6 ?_;refine wpT 7 ?_;refine wpT 8 ?_;refine wpT 9 (v:=.bool true) ?_ (hy:=by intro w hSw;(obtain ⟨z0,z1,z2⟩:=hSw);go_simp;(try first | omega | (rw [decide_eq_true_iff];omega)));refine wpT 10 ?_;refine wpT 11 ?_;refine wpT 12 ?_;refine wpT 13 ?_;refine wpT 14 ?_;refine wpT 15 ?_;refine wpT 16 ?_;refine wpT 17 ?_;refine wpT 18 ?_;refine wpT 19 ?_;refine wpT 20 ?_;refine wpT 21 ?_;refine wpR 22 fun Kq hKq=> ?_;go_simp;refine (sclost_any f.S (f.S+1) b.sc b.mss _ HBO.out.sc HS.out.cn.sc).mono ?_;rintro e w10 ⟨v,rfl,ho,hb⟩;obtain ⟨la,lc,rfl,-⟩:=ho.val;replace HS:=hid (HS.out.bel hb);clear hb ho;go_simp;refine hKq.out _ _ (⟨HS.out.cn.cell 10 (.int .i64 b.mark) rfl,HS.out.cn.cell 0 (.pointer (some ⟨f.S,0,none⟩)) rfl,HS.out.cn.cell 7 (.int .i64 b.mss) rfl⟩) fun hI=>wpA ?_;clear hKq Kq hZ;have hZ:=hI;clear hI;refine wpT 23 ?_;refine wpT 24 (v:=.bool false) ?_ (hy:=by intro w hSw;(obtain ⟨z0,z1,z2⟩:=hSw);go_simp;(try first | omega | (rw [decide_eq_false_iff_not];omega)));refine wpT 25 ?_;refine wpAnyH_done (by kernel_rfl) ?_ _;clear hZ;go_wp2_with fail
      go_meet
      case rel=>exact ⟨congrArg Value.bool (decide_eq_false (fun h=>h.2.2 h6)).symm,HS.out⟩
     have hl0:0<(b.sc.lost b.mss).length:=List.length_pos_iff.2 h6;refine wp_region_held_drew (S:=(fun W:World=>W.cell? ⟨f.C,10,none⟩=some (.int .i64 b.mark)/\W.cell? ⟨f.C,0,none⟩=some (.pointer (some ⟨f.S,0,none⟩))/\W.cell? ⟨f.C,7,none⟩=some (.int .i64 b.mss))) (by kernel_rfl) (⟨HS.out.cn.cell 10 (.int .i64 b.mark) rfl,HS.out.cn.cell 0 (.pointer (some ⟨f.S,0,none⟩)) rfl,HS.out.cn.cell 7 (.int .i64 b.mss) rfl⟩) (fun hZ=> ?_);replace HS:=hid HS.out.drew;generalize w9.drew=w9d at HS hZ ⊢;refine wpT 0 ?_;refine wpT 1 (v:=.bool true) ?_ (hy:=by intro w hSw;(obtain ⟨z0,z1,z2⟩:=hSw);go_simp;(try first | omega | (rw [decide_eq_true_iff];omega)));refine wpT 2 ?_;refine wpT 3 ?_;refine wpT 4 ?_;refine wpT 5 ?_;refine wpT 6 ?_;refine wpT 7 ?_;refine wpT 8 ?_;refine wpT 9 (v:=.bool true) ?_ (hy:=by intro w hSw;(obtain ⟨z0,z1,z2⟩:=hSw);go_simp;(try first | omega | (rw [decide_eq_true_iff];omega)));refine wpT 10 ?_;refine wpT 11 ?_;refine wpT 12 ?_;refine wpT 13 ?_;refine wpT 14 ?_;refine wpT 15 ?_;refine wpT 16 ?_;refine wpT 17 ?_;refine wpT 18 ?_;refine wpT 19 ?_;refine wpT 20 ?_;refine wpT 21 ?_;refine wpR 22 fun Kq hKq=> ?_;go_simp;refine (sclost_any f.S (f.S+1) b.sc b.mss _ HBO.out.sc HS.out.cn.sc).mono ?_;rintro e w10 ⟨v,rfl,ho,hb⟩;obtain ⟨la,lc,rfl,-⟩:=ho.val;replace HS:=hid (HS.out.bel hb);clear hb ho;go_simp;refine hKq.out _ _ (⟨HS.out.cn.cell 10 (.int .i64 b.mark) rfl,HS.out.cn.cell 0 (.pointer (some ⟨f.S,0,none⟩)) rfl,HS.out.cn.cell 7 (.int .i64 b.mss) rfl⟩) fun hI=>wpA ?_;clear hKq Kq hZ;have hZ:=hI;clear hI;refine wpT 23 ?_;refine wpT 24 (v:=.bool true) ?_ (hy:=by intro w hSw;(obtain ⟨z0,z1,z2⟩:=hSw);go_simp;(try first | omega | (rw [decide_eq_true_iff];omega)));refine wpT 25 ?_;refine wpAnyH_done (by kernel_rfl) ?_ _;clear hZ;go_wp2_with fail
     go_meet
     case rel=>exact ⟨congrArg Value.bool (decide_eq_true ⟨h4,h5,h6⟩).symm,HS.out⟩
    refine wp_region_held_drew (S:=(fun W:World=>W.cell? ⟨f.C,10,none⟩=some (.int .i64 b.mark)/\W.cell? ⟨f.C,0,none⟩=some (.pointer (some ⟨f.S,0,none⟩))/\W.cell? ⟨f.C,7,none⟩=some (.int .i64 b.mss))) (by kernel_rfl) (⟨HS.out.cn.cell 10 (.int .i64 b.mark) rfl,HS.out.cn.cell 0 (.pointer (some ⟨f.S,0,none⟩)) rfl,HS.out.cn.cell 7 (.int .i64 b.mss) rfl⟩) (fun hZ=> ?_);replace HS:=hid HS.out.drew;generalize w9.drew=w9d at HS hZ ⊢;refine wpT 0 ?_;refine wpT 1 (v:=.bool true) ?_ (hy:=by intro w hSw;(obtain ⟨z0,z1,z2⟩:=hSw);go_simp;(try first | omega | (rw [decide_eq_true_iff];omega)));refine wpT 2 ?_;refine wpT 3 ?_;refine wpT 4 ?_;refine wpT 5 ?_;refine wpT 6 ?_;refine wpT 7 ?_;refine wpT 8 ?_;refine wpT 9 (v:=.bool false) ?_ (hy:=by intro w hSw;(obtain ⟨z0,z1,z2⟩:=hSw);go_simp;(try first | omega | (rw [decide_eq_false_iff_not];omega)));refine wpT 10 ?_;refine wpT 11 ?_;refine wpK 12 ?_;refine wpK 13 ?_;refine wpK 14 ?_;refine wpK 15 ?_;refine wpK 16 ?_;refine wpK 17 ?_;refine wpK 18 ?_;refine wpK 19 ?_;refine wpK 20 ?_;refine wpK 21 ?_;refine wpK 22 ?_;refine wpK 23 ?_;refine wpK 24 ?_;refine wpT 25 ?_;refine wpAnyH_done (by kernel_rfl) ?_ _;clear hZ;go_wp2_with fail
    go_meet
    case rel=>exact ⟨congrArg Value.bool (decide_eq_false (fun h=>by have:=h.2.1;omega)).symm,HS.out⟩
   refine wp_region_held_drew (S:=(fun W:World=>W.cell? ⟨f.C,10,none⟩=some (.int .i64 b.mark)/\W.cell? ⟨f.C,0,none⟩=some (.pointer (some ⟨f.S,0,none⟩))/\W.cell? ⟨f.C,7,none⟩=some (.int .i64 b.mss))) (by kernel_rfl) (⟨HS.out.cn.cell 10 (.int .i64 b.mark) rfl,HS.out.cn.cell 0 (.pointer (some ⟨f.S,0,none⟩)) rfl,HS.out.cn.cell 7 (.int .i64 b.mss) rfl⟩) (fun hZ=> ?_);replace HS:=hid HS.out.drew;generalize w9.drew=w9d at HS hZ ⊢;refine wpT 0 ?_;refine wpT 1 (v:=.bool false) ?_ (hy:=by intro w hSw;(obtain ⟨z0,z1,z2⟩:=hSw);go_simp;(try first | omega | (rw [decide_eq_false_iff_not];omega)));refine wpT 2 ?_;refine wpK 3 ?_;refine wpK 4 ?_;refine wpK 5 ?_;refine wpK 6 ?_;refine wpK 7 ?_;refine wpK 8 ?_;refine wpK 9 ?_;refine wpT 10 ?_;refine wpT 11 ?_;refine wpK 12 ?_;refine wpK 13 ?_;refine wpK 14 ?_;refine wpK 15 ?_;refine wpK 16 ?_;refine wpK 17 ?_;refine wpK 18 ?_;refine wpK 19 ?_;refine wpK 20 ?_;refine wpK 21 ?_;refine wpK 22 ?_;refine wpK 23 ?_;refine wpK 24 ?_;refine wpT 25 ?_;refine wpAnyH_done (by kernel_rfl) ?_ _;clear hZ;go_wp2_with fail
   go_meet
   case rel=>exact ⟨congrArg Value.bool (decide_eq_false (fun h=>by have:=h.1;omega)).symm,HS.out⟩
  case rest =>
   obtain ⟨rfl,hs9⟩:=hcut;replace HS:=hid hs9;clear hs9
   go_upto_if 109 with fail
   go_cut [] from 109 to 121 (fun wx=>Sw f w w.heap.size (s,a,cap) (b.ackL ack sk c.flight) wx)
   case first =>
    by_cases h7:0<sk/\b.mark<=ack/\b.sc.lost b.mss≠[]
    ·rw [decide_eq_true h7];have HA:=hid (show b.ackL ack sk c.flight={ b with cg:=b.cg.lost c.flight b.next } from if_pos h7);clear h7;go_wp2_with fail;refine wp_region_held_drew (S:=(fun W:World=>W.cell? ⟨f.C,2,none⟩=some (.pointer (some ⟨f.G,0,none⟩)))) (by kernel_rfl) (HS.out.cn.cell 2 (.pointer (some ⟨f.G,0,none⟩)) rfl) (fun hZ=> ?_);replace HS:=hid HS.out.drew;generalize wc.drew=wcd at HS hZ ⊢;refine wpT 0 ?_;refine wpT 1 ?_;refine wpT 2 ?_;refine wpT 3 ?_;refine wpT 4 ?_;refine wpT 5 ?_;refine wpT 6 ?_;refine wpT 7 ?_;refine wpT 8 ?_;refine wpR 9 fun Kq hKq=> ?_;go_simp;refine (tnext_any f b _ HS.out.cn).mono ?_;rintro e w11 ⟨rfl,hb⟩;replace HS:=hid (HS.out.bel hb);clear hb;go_simp;refine hKq.out _ _ (HS.out.cn.cell 2 (.pointer (some ⟨f.G,0,none⟩)) rfl) fun hI=>wpA ?_;clear hKq Kq hZ;have hZ:=hI;clear hI;refine wpR 10 fun Kq hKq=> ?_;go_simp;refine (lost_any f.G b.cg c.flight b.next (by unfold In64;omega) HBO.out.cg _ HS.out.cn.cg).mono ?_;rintro e w12 ⟨rfl,hg,hc⟩;have HR:=hid (HS.out.call (HS.out.cn.onG hg hc) (.ofG hc));clear hg hc;go_simp;refine hKq.out _ _ (HR.out.cn.cell 2 (.pointer (some ⟨f.G,0,none⟩)) rfl) fun hI=>wpA ?_;clear hKq Kq hZ;have hZ:=hI;clear hI;refine wpAnyH_done (by kernel_rfl) ?_ _;clear hZ;go_wp2_with fail
     go_meet
     case rel=>exact HR.out.eq HA.out
    rw [decide_eq_false h7];have HA:=hid (show b.ackL ack sk c.flight=b from if_neg h7);clear h7;go_wp2_with fail
    go_meet
    case rel=>exact HS.out.eq HA.out
   case rest =>
    replace HS:=hid hcut;have HDO:=hid (HBO.out.ackL ack sk c.flight);generalize b.ackL ack sk c.flight=d3 at HS HDO HDD;clear hcut HBO hmk1 hmk2;rw [HDD.out] at HE;clear HDD;by_cases h8:c.una<=c.last
    ·have hdh8:decide (c.una<=c.last)=true:=decide_eq_true h8;have H8:=hid h8;clear h8;by_cases h9:c.last<ack
     ·have hdh9:decide (c.last<ack)=true:=decide_eq_true h9;have H9:=hid h9;clear h9;go_wp2_with fail;refine (tstep_any f d3 now 7 _ HS.out.cn HDO.out.st (by decide)).mono ?_;rintro e w13 ⟨rfl,hc,hch⟩;replace HS:=hid (HS.out.call hc hch);clear hc hch;go_wp2_with fail
      go_end0
      exact ⟨rfl,by rw [HE.out,if_pos ⟨H8.out,H9.out⟩];exact HS.out.cn,HS.out.ch⟩
     have hdh9:decide (c.last<ack)=false:=decide_eq_false h9;have H9:=hid h9;clear h9;go_wp2_with fail
     go_end0
     exact ⟨rfl,by rw [HE.out,if_neg (fun h=>by have:=H9.out;have:=h.2;omega)];exact HS.out.cn,HS.out.ch⟩
    have hdh8:decide (c.una<=c.last)=false:=decide_eq_false h8;have H8:=hid h8;clear h8;go_wp2_with fail
    go_end0
    exact ⟨rfl,by rw [HE.out,if_neg (fun h=>by have:=H8.out;have:=h.1;omega)];exact HS.out.cn,HS.out.ch⟩
end
section
set_option maxHeartbeats 8000000
set_option maxRecDepth 100000
open Go.RowKit Go.Shelf
theorem OwnS.base {w:World} {b b':Nat} {v:Value} {L:List Sg} (h:OwnS w b v L) (hb:b'<=b):OwnS w b' v L:=by
 obtain ⟨M,h1,h2,h3⟩:=h;refine ⟨M,h1,?_,h3⟩
 rcases h2 with ⟨hx,hy⟩
 exact ⟨hx,hy.imp id (fun ⟨g,cap,cur,h1,h2,h3⟩=>⟨g,cap,cur,h1,Nat.le_trans hb h2,h3⟩)⟩
theorem Cn.process_eq (c:Cn) (now:Int) (s:Sg) (off:Int):c.process now s off =
 if c.st=2 then
  if diffV s.ak c.cf.iss<1∨c.next<diffV s.ak c.cf.iss then (c,[c.resetS s.ak])
  else if (c.step now 4).shut=true then (((((c.step now 4).step now 5).acked now s (diffV s.ak c.cf.iss)).store now s off).finS now s off).push now
  else ((((c.step now 4).acked now s (diffV s.ak c.cf.iss)).store now s off).finS now s off).push now
 else if c.next<diffV s.ak c.cf.iss then c.ackNow.push now
 else (((c.acked now s (diffV s.ak c.cf.iss)).store now s off).finS now s off).push now:=by
 unfold Cn.process;dsimp only;by_cases h2:c.st=2
 ·rw [if_pos h2,if_pos h2];by_cases h3:diffV s.ak c.cf.iss<1∨c.next<diffV s.ak c.cf.iss
  ·rw [if_pos h3,if_pos h3]
  rw [if_neg h3,if_neg h3];by_cases h5:(c.step now 4).shut=true
  ·rw [if_pos h5,if_pos h5]
  rw [if_neg h5,if_neg h5]
 rw [if_neg h2,if_neg h2]
theorem tprocess_any (f:Fp) (c:Cn) (now:Int) (s:Sg) (off:Int) (a:Option Addr) (cap:Nat) (w:World) (h:CnAt f c w) (ok:c.Ok) (hn:In64 now) (hs:s.Ok) (hb:BlIn w a s.bl) (ho: -2147483648<=off/\off<=2147483647) :
  Calls Tryz.prog 69 #[.pointer (some ⟨f.C,0,none⟩),.int .i64 now,sgV s a cap,.int .i64 off] w (LstOut f w (c.process now s off).2 (c.process now s off).1):=by
 have HN:=hid hn;have HSO:=hid hs;have hgt:=h.gl.top;have hlt:=h.lt;have HO:=hid ok;have HS:=hid (Sw.start (x:=(s,a,cap)) h hb);clear h hb ok hs hn;unfold sgV;have HPO:=hid (show (c.process now s off)=c.process now s off from rfl);obtain ⟨R,hR⟩:∃ R,R=c.process now s off:=⟨_,rfl⟩;rw [←hR];have HR:=hid hR;clear hR HPO;have hab:=diffV_bd s.ak c.cf.iss;have hun:=HO.out.una;obtain ⟨hun0,hun1,hun2⟩:=hun
 go_enter Tryz.func69,Tryz.ntmps69
 go_wp2_with fail;change Code.wp _ _ _ _ (w.alloc (.cells (sgL (s,a,cap)).toArray 43));generalize w.alloc (.cells (sgL (s,a,cap)).toArray 43)=w1 at HS ⊢;refine wp_region_held_drew (S:=(fun W:World=>W.cell? ⟨w.heap.size,3,none⟩=some (.int .i64 s.ak)/\W.cell? ⟨f.C,24,none⟩=some (.int .i64 c.cf.iss))) (by kernel_rfl) (⟨HS.out.row.cell 3 (.int .i64 s.ak) rfl,HS.out.cn.cell 24 (.int .i64 c.cf.iss) rfl⟩) (fun hZ=> ?_);replace HS:=hid HS.out.drew;generalize w1.drew=w1d at HS hZ ⊢;refine wpT 0 ?_;refine wpT 1 ?_;refine wpT 2 ?_;refine wpT 3 ?_;refine wpT 4 ?_;refine wpT 5 ?_;refine wpT 6 ?_;refine wpR 7 fun Kq hKq=> ?_;go_simp;refine (diff_any _ _ _).mono ?_;rintro e w2 ⟨rfl,rfl⟩;go_simp;refine hKq.out _ _ (⟨HS.out.row.cell 3 (.int .i64 s.ak) rfl,HS.out.cn.cell 24 (.int .i64 c.cf.iss) rfl⟩) fun hI=>wpA ?_;clear hKq Kq hZ;have hZ:=hI;clear hI;refine wpT 8 ?_;refine wpAnyH_done (by kernel_rfl) ?_ _;clear hZ;have HRQ:=hid (Cn.process_eq c now s off);obtain ⟨ak,hak⟩:∃ ak,ak=diffV s.ak c.cf.iss:=⟨_,rfl⟩;rw [←hak] at HRQ hab ⊢;clear hak;have c28:=HS.out.cn.cell 28 (.int .i64 c.st) rfl;by_cases h2:c.st=2
 ·by_cases h3:ak<1
  ·have HRF:=hid (HRQ.out.trans (by rw [if_pos h2,if_pos (.inl h3)]));have hdh3:decide (ak<1)=true:=decide_eq_true h3;clear h3;have c3:=HS.out.row.cell 3 (.int .i64 s.ak) rfl;rw [h2] at c28;go_wp2_with fail;refine (treset_any f c s.ak _ HS.out.cn).mono ?_;rintro e w4 ⟨rfl,hb⟩;replace HS:=hid (HS.out.bel hb);clear hb;unfold sgV;clear c3;have hb8:=(Below.refl w4.heap.size w4).alloc (Nat.le_refl _) (.cells (sgL ((c.resetS s.ak),none,0)).toArray 43);have HNW:=hid (one_cells (SgRow.new w4 ((c.resetS s.ak),none,0)));replace HS:=hid (HS.out.bel hb8);clear hb8;go_wp2_with fail;change Calls _ _ #[Value.slice none 0 0,Value.slice (some ⟨w4.heap.size,0,none⟩) [(((c.resetS s.ak),none,0):SgM)].length 1] (w4.alloc (.cells (sgL ((c.resetS s.ak),none,0)).toArray 43)) _;generalize w4.heap.size=NB at HNW ⊢;generalize w4.alloc (.cells (sgL ((c.resetS s.ak),none,0)).toArray 43)=w6 at HNW HS ⊢;refine (emit_any w6 w.heap.size _ [] (OwnG.nil _ _) NB 0 1 [((c.resetS s.ak),none,0)] HNW.out (fun y hy=>by rw [List.mem_singleton.1 hy];exact BlIn.nil _ _) (by simp) HS.out.ch.size).mono ?_;rintro e w8 ⟨v',rfl,h1,h2,-⟩;have HC8:=hid (HS.out.cn.grown h2 (fun k e=>by cases e));have HX8:=hid (HS.out.ch.grown h2 (fun k e=>by cases e));have HL:=hid (show OwnS w8 w.heap.size v' [(c.resetS s.ak)] from ⟨_,rfl,h1⟩);clear h1 h2;go_wp2_with fail;go_ret;exact ⟨_,rfl,by rw [HR.out,HRF.out];exact HL.out,by rw [HR.out,HRF.out];exact HC8.out,HX8.out⟩
  by_cases h4:c.next<ak
  ·have HRF:=hid (HRQ.out.trans (by rw [if_pos h2,if_pos (.inr h4)]));have hdh3:decide (ak<1)=false:=decide_eq_false h3;have hdh4:decide (c.next<ak)=true:=decide_eq_true h4;clear h3 h4;rw [h2] at c28;go_wp2_with fail;refine (tnext_any f c _ HS.out.cn).mono ?_;rintro e w3 ⟨rfl,hb⟩;replace HS:=hid (HS.out.bel hb);clear hb;have c3:=HS.out.row.cell 3 (.int .i64 s.ak) rfl;go_wp2_with fail;refine (treset_any f c s.ak _ HS.out.cn).mono ?_;rintro e w4 ⟨rfl,hb⟩;replace HS:=hid (HS.out.bel hb);clear hb;unfold sgV;clear c3;have hb8:=(Below.refl w4.heap.size w4).alloc (Nat.le_refl _) (.cells (sgL ((c.resetS s.ak),none,0)).toArray 43);have HNW:=hid (one_cells (SgRow.new w4 ((c.resetS s.ak),none,0)));replace HS:=hid (HS.out.bel hb8);clear hb8;go_wp2_with fail;change Calls _ _ #[Value.slice none 0 0,Value.slice (some ⟨w4.heap.size,0,none⟩) [(((c.resetS s.ak),none,0):SgM)].length 1] (w4.alloc (.cells (sgL ((c.resetS s.ak),none,0)).toArray 43)) _;generalize w4.heap.size=NB at HNW ⊢;generalize w4.alloc (.cells (sgL ((c.resetS s.ak),none,0)).toArray 43)=w6 at HNW HS ⊢;refine (emit_any w6 w.heap.size _ [] (OwnG.nil _ _) NB 0 1 [((c.resetS s.ak),none,0)] HNW.out (fun y hy=>by rw [List.mem_singleton.1 hy];exact BlIn.nil _ _) (by simp) HS.out.ch.size).mono ?_;rintro e w8 ⟨v',rfl,h1,h2,-⟩;have HC8:=hid (HS.out.cn.grown h2 (fun k e=>by cases e));have HX8:=hid (HS.out.ch.grown h2 (fun k e=>by cases e));have HL:=hid (show OwnS w8 w.heap.size v' [(c.resetS s.ak)] from ⟨_,rfl,h1⟩);clear h1 h2;go_wp2_with fail;go_ret;exact ⟨_,rfl,by rw [HR.out,HRF.out];exact HL.out,by rw [HR.out,HRF.out];exact HC8.out,HX8.out⟩
  have H3:=hid h3;have H4:=hid h4;have hdh3:decide (ak<1)=false:=decide_eq_false h3;have hdh4:decide (c.next<ak)=false:=decide_eq_false h4;clear h3 h4;rw [h2] at c28;go_wp2_with fail;refine (tnext_any f c _ HS.out.cn).mono ?_;rintro e w3 ⟨rfl,hb⟩;replace HS:=hid (HS.out.bel hb);clear hb;go_wp2_with fail;refine (tstep_any f c now 4 _ HS.out.cn HO.out.st (by decide)).mono ?_;rintro e w9 ⟨rfl,hc,hch⟩;replace HS:=hid (HS.out.call hc hch);clear hc hch;have HO2:=hid (HO.out.step HN.out (HO.out.tr2 (by rw [h2];decide)) 4);have HT2:=hid (show (c.step now 4).tries<=12 by rw [Cn.step_tries];exact HO.out.tr2 (by rw [h2];decide));replace HRQ:=hid (HRQ.out.trans (by rw [if_pos h2,if_neg (by have:=H3.out;have:=H4.out;omega)]));generalize c.step now 4=d2 at HS HO2 HT2 HRQ;clear c28 hdh3 hdh4 H3 H4;have c9:=HS.out.cn.cell 9 (.bool d2.shut) rfl;by_cases h5:d2.shut=true
  focus
   have HRF:=hid (HRQ.out.trans (by rw [if_pos h5]));clear HRQ;rw [h5] at c9;go_wp2_with fail;refine (tstep_any f d2 now 5 _ HS.out.cn HO2.out.st (by decide)).mono ?_;rintro e w9 ⟨rfl,hc,hch⟩;replace HS:=hid (HS.out.call hc hch);clear hc hch;have HO3:=hid (HO2.out.step HN.out HT2.out 5);generalize d2.step now 5=d3 at HS HO3 HRF;have q0:=HS.out.row.cell 0 _ rfl;have q1:=HS.out.row.cell 1 _ rfl;have q2:=HS.out.row.cell 2 _ rfl;have q3:=HS.out.row.cell 3 _ rfl;have q4:=HS.out.row.cell 4 _ rfl;have q5:=HS.out.row.cell 5 _ rfl;have q6:=HS.out.row.cell 6 _ rfl;have q7:=HS.out.row.cell 7 _ rfl;have q8:=HS.out.row.cell 8 _ rfl;have q9:=HS.out.row.cell 9 _ rfl;have q10:=HS.out.row.cell 10 _ rfl;have q11:=HS.out.row.cell 11 _ rfl;have q12:=HS.out.row.cell 12 _ rfl;go_wp2_with fail;refine (tacked_any f (d3) now s ak a cap _ HS.out.cn HO3.out HN.out HSO.out HS.out.bl hab).mono ?_;rintro e w9 ⟨rfl,hc,hch⟩;replace HS:=hid (HS.out.call hc hch);clear hc hch;clear q0 q1 q2 q3 q4 q5 q6 q7 q8 q9 q10 q11 q12;have HO5:=hid (HO3.out.acked HN.out HSO.out (show ak<=1099511562240 by omega));have HTL:=hid (Cn.Ok.tail (c:=d3) HO3.out HN.out HSO.out ho hab.2);generalize Cn.acked (d3) now s ak=d5 at HS HO5 HTL HRF
  rotate_left 1
  focus
   have h6:d2.shut=false:=by simpa using h5
   have HRF:=hid (HRQ.out.trans (by rw [if_neg h5]));clear HRQ;rw [h6] at c9;clear h5 h6;have q0:=HS.out.row.cell 0 _ rfl;have q1:=HS.out.row.cell 1 _ rfl;have q2:=HS.out.row.cell 2 _ rfl;have q3:=HS.out.row.cell 3 _ rfl;have q4:=HS.out.row.cell 4 _ rfl;have q5:=HS.out.row.cell 5 _ rfl;have q6:=HS.out.row.cell 6 _ rfl;have q7:=HS.out.row.cell 7 _ rfl;have q8:=HS.out.row.cell 8 _ rfl;have q9:=HS.out.row.cell 9 _ rfl;have q10:=HS.out.row.cell 10 _ rfl;have q11:=HS.out.row.cell 11 _ rfl;have q12:=HS.out.row.cell 12 _ rfl;go_wp2_with fail;refine (tacked_any f (d2) now s ak a cap _ HS.out.cn HO2.out HN.out HSO.out HS.out.bl hab).mono ?_;rintro e w9 ⟨rfl,hc,hch⟩;replace HS:=hid (HS.out.call hc hch);clear hc hch;clear q0 q1 q2 q3 q4 q5 q6 q7 q8 q9 q10 q11 q12;have HO5:=hid (HO2.out.acked HN.out HSO.out (show ak<=1099511562240 by omega));have HTL:=hid (Cn.Ok.tail (c:=d2) HO2.out HN.out HSO.out ho hab.2);generalize Cn.acked (d2) now s ak=d5 at HS HO5 HTL HRF
  all_goals
   have q0:=HS.out.row.cell 0 _ rfl;have q1:=HS.out.row.cell 1 _ rfl;have q2:=HS.out.row.cell 2 _ rfl;have q3:=HS.out.row.cell 3 _ rfl;have q4:=HS.out.row.cell 4 _ rfl;have q5:=HS.out.row.cell 5 _ rfl;have q6:=HS.out.row.cell 6 _ rfl;have q7:=HS.out.row.cell 7 _ rfl;have q8:=HS.out.row.cell 8 _ rfl;have q9:=HS.out.row.cell 9 _ rfl;have q10:=HS.out.row.cell 10 _ rfl;have q11:=HS.out.row.cell 11 _ rfl;have q12:=HS.out.row.cell 12 _ rfl;go_wp2_with fail;refine (tstore_any f d5 now s off a cap _ HS.out.cn HO5.out.1 HSO.out HS.out.bl ho).mono ?_;rintro e w9 ⟨rfl,hc,hch⟩;replace HS:=hid (HS.out.call hc hch);clear hc hch;clear q0 q1 q2 q3 q4 q5 q6 q7 q8 q9 q10 q11 q12;have HO6:=hid (HO5.out.1.store HN.out HSO.out ho.2);have HT6:=hid (show (d5.store now s off).tries<=12 by rw [Cn.store_tries,HO5.out.2];decide);generalize d5.store now s off=d6 at HS HO6 HT6 HTL HRF;have q0:=HS.out.row.cell 0 _ rfl;have q1:=HS.out.row.cell 1 _ rfl;have q2:=HS.out.row.cell 2 _ rfl;have q3:=HS.out.row.cell 3 _ rfl;have q4:=HS.out.row.cell 4 _ rfl;have q5:=HS.out.row.cell 5 _ rfl;have q6:=HS.out.row.cell 6 _ rfl;have q7:=HS.out.row.cell 7 _ rfl;have q8:=HS.out.row.cell 8 _ rfl;have q9:=HS.out.row.cell 9 _ rfl;have q10:=HS.out.row.cell 10 _ rfl;have q11:=HS.out.row.cell 11 _ rfl;have q12:=HS.out.row.cell 12 _ rfl;go_wp2_with fail;refine (tfinS_any f d6 now s off a cap _ HS.out.cn HO6.out HN.out HSO.out HS.out.bl ho HT6.out).mono ?_;rintro e w9 ⟨rfl,hc,hch⟩;replace HS:=hid (HS.out.call hc hch);clear hc hch;clear q0 q1 q2 q3 q4 q5 q6 q7 q8 q9 q10 q11 q12;have HO7:=hid (HO6.out.finS HN.out HSO.out ho HT6.out);generalize d6.finS now s off=d7 at HS HO7 HRF;go_wp2_with fail;refine (tpush_any f d7 now _ HS.out.cn HO7.out HN.out).mono ?_;rintro e wz ⟨v,rfl,hl,hc,hch⟩;have HL:=hid (show OwnS wz w.heap.size v _ from OwnS.base hl HS.out.ch.size);have HCZ:=hid hc;have HXZ:=hid (HS.out.ch.trans hch);clear hl hc hch;go_wp2_with fail;go_ret;exact ⟨_,rfl,by rw [HR.out,HRF.out];exact HL.out,by rw [HR.out,HRF.out];exact HCZ.out,HXZ.out⟩
 have hd2:(c.st==2)=false:=beq_eq_false_iff_ne.2 h2;have H2:=hid h2;clear h2;by_cases h4:c.next<ak
 focus
  have HRF:=hid (HRQ.out.trans (by rw [if_neg H2.out,if_pos h4]));have hdh4:decide (c.next<ak)=true:=decide_eq_true h4;clear h4 HRQ;go_wp2_with fail;refine (tnext_any f c _ HS.out.cn).mono ?_;rintro e w3 ⟨rfl,hb⟩;replace HS:=hid (HS.out.bel hb);clear hb;go_wp2_with fail;refine (tack_any f c _ HS.out.cn).mono ?_;rintro e w9 ⟨rfl,hc,hch⟩;replace HS:=hid (HS.out.call hc hch);clear hc hch;have HO3:=hid HO.out.ackNow;go_wp2_with fail;refine (tpush_any f c.ackNow now _ HS.out.cn HO3.out HN.out).mono ?_
 rotate_left 1
 focus
  have HRF:=hid (HRQ.out.trans (by rw [if_neg H2.out,if_neg h4]));have hdh4:decide (c.next<ak)=false:=decide_eq_false h4;clear h4 HRQ;go_wp2_with fail;refine (tnext_any f c _ HS.out.cn).mono ?_;rintro e w3 ⟨rfl,hb⟩;replace HS:=hid (HS.out.bel hb);clear hb;have q0:=HS.out.row.cell 0 _ rfl;have q1:=HS.out.row.cell 1 _ rfl;have q2:=HS.out.row.cell 2 _ rfl;have q3:=HS.out.row.cell 3 _ rfl;have q4:=HS.out.row.cell 4 _ rfl;have q5:=HS.out.row.cell 5 _ rfl;have q6:=HS.out.row.cell 6 _ rfl;have q7:=HS.out.row.cell 7 _ rfl;have q8:=HS.out.row.cell 8 _ rfl;have q9:=HS.out.row.cell 9 _ rfl;have q10:=HS.out.row.cell 10 _ rfl;have q11:=HS.out.row.cell 11 _ rfl;have q12:=HS.out.row.cell 12 _ rfl;go_wp2_with fail;refine (tacked_any f (c) now s ak a cap _ HS.out.cn HO.out HN.out HSO.out HS.out.bl hab).mono ?_;rintro e w9 ⟨rfl,hc,hch⟩;replace HS:=hid (HS.out.call hc hch);clear hc hch;clear q0 q1 q2 q3 q4 q5 q6 q7 q8 q9 q10 q11 q12;have HO5:=hid (HO.out.acked HN.out HSO.out (show ak<=1099511562240 by omega));have HTL:=hid (Cn.Ok.tail (c:=c) HO.out HN.out HSO.out ho hab.2);generalize Cn.acked (c) now s ak=d5 at HS HO5 HTL HRF;have q0:=HS.out.row.cell 0 _ rfl;have q1:=HS.out.row.cell 1 _ rfl;have q2:=HS.out.row.cell 2 _ rfl;have q3:=HS.out.row.cell 3 _ rfl;have q4:=HS.out.row.cell 4 _ rfl;have q5:=HS.out.row.cell 5 _ rfl;have q6:=HS.out.row.cell 6 _ rfl;have q7:=HS.out.row.cell 7 _ rfl;have q8:=HS.out.row.cell 8 _ rfl;have q9:=HS.out.row.cell 9 _ rfl;have q10:=HS.out.row.cell 10 _ rfl;have q11:=HS.out.row.cell 11 _ rfl;have q12:=HS.out.row.cell 12 _ rfl;go_wp2_with fail;refine (tstore_any f d5 now s off a cap _ HS.out.cn HO5.out.1 HSO.out HS.out.bl ho).mono ?_;rintro e w9 ⟨rfl,hc,hch⟩;replace HS:=hid (HS.out.call hc hch);clear hc hch;clear q0 q1 q2 q3 q4 q5 q6 q7 q8 q9 q10 q11 q12;have HO6:=hid (HO5.out.1.store HN.out HSO.out ho.2);have HT6:=hid (show (d5.store now s off).tries<=12 by rw [Cn.store_tries,HO5.out.2];decide);generalize d5.store now s off=d6 at HS HO6 HT6 HTL HRF;have q0:=HS.out.row.cell 0 _ rfl;have q1:=HS.out.row.cell 1 _ rfl;have q2:=HS.out.row.cell 2 _ rfl;have q3:=HS.out.row.cell 3 _ rfl;have q4:=HS.out.row.cell 4 _ rfl;have q5:=HS.out.row.cell 5 _ rfl;have q6:=HS.out.row.cell 6 _ rfl;have q7:=HS.out.row.cell 7 _ rfl;have q8:=HS.out.row.cell 8 _ rfl;have q9:=HS.out.row.cell 9 _ rfl;have q10:=HS.out.row.cell 10 _ rfl;have q11:=HS.out.row.cell 11 _ rfl;have q12:=HS.out.row.cell 12 _ rfl;go_wp2_with fail;refine (tfinS_any f d6 now s off a cap _ HS.out.cn HO6.out HN.out HSO.out HS.out.bl ho HT6.out).mono ?_;rintro e w9 ⟨rfl,hc,hch⟩;replace HS:=hid (HS.out.call hc hch);clear hc hch;clear q0 q1 q2 q3 q4 q5 q6 q7 q8 q9 q10 q11 q12;have HO7:=hid (HO6.out.finS HN.out HSO.out ho HT6.out);generalize d6.finS now s off=d7 at HS HO7 HRF;go_wp2_with fail;refine (tpush_any f d7 now _ HS.out.cn HO7.out HN.out).mono ?_
 all_goals
  rintro e wz ⟨v,rfl,hl,hc,hch⟩;have HL:=hid (show OwnS wz w.heap.size v _ from OwnS.base hl HS.out.ch.size);have HCZ:=hid hc;have HXZ:=hid (HS.out.ch.trans hch);clear hl hc hch;go_wp2_with fail;go_ret;exact ⟨_,rfl,by rw [HR.out,HRF.out];exact HL.out,by rw [HR.out,HRF.out];exact HCZ.out,HXZ.out⟩
end
section
set_option maxHeartbeats 8000000
set_option maxRecDepth 100000
open Go.RowKit Go.Shelf
theorem segLen_eq {s:Sg} (h:s.Ok):segLen s=s.s.length+(if s.syn=true∨s.fin=true then 1 else 0):=by
 unfold segLen;have:=h.fl.1
 cases h1:s.syn <;> cases h2:s.fin <;> simp_all <;> omega
theorem Cn.stray_eq (c:Cn) (now:Int) (s:Sg):c.stray now s =
 (let a:=if (syncB c.st=true/\s.has=true/\s.syn=false)/\c.una<=diffV s.ak c.cf.iss/\diffV s.ak c.cf.iss<=c.next then c.acked now s (diffV s.ak c.cf.iss) else c
  let b:Cn:=if a.st=9/\s.fin=true then { a with per:=.aft now 60 } else a
  (if 0<segLen s then b.ackNow else b).push now):=by
 unfold Cn.stray;dsimp only
 congr 1
 simp only [and_assoc]
theorem tseglen_any (s:Sg) (a:Option Addr) (cap:Nat) (w:World) (hs:s.Ok) :
  Calls Tryz.prog 55 #[sgV s a cap] w fun e w'=>e= .returned (.int .i64 (segLen s))/\Below w.heap.size w w':=by
 have h:=seglen_any s a cap ⟨s.s.toArray⟩ w (by simp [ByteArray.size]) (by have:=hs.slen;omega);rw [←segLen_eq hs] at h;unfold sgV;exact h
theorem tstray_any (f:Fp) (c:Cn) (now:Int) (s:Sg) (a:Option Addr) (cap:Nat) (w:World) (h:CnAt f c w) (ok:c.Ok) (hn:In64 now) (hs:s.Ok) (hb:BlIn w a s.bl) (h0:c.st≠0) :
  Calls Tryz.prog 66 #[.pointer (some ⟨f.C,0,none⟩),.int .i64 now,sgV s a cap] w (LstOut f w (c.stray now s).2 (c.stray now s).1):=by
 have HT0:=hid (ok.tr2 h0);have HN:=hid hn;have HSO:=hid hs;have hgt:=h.gl.top;have hlt:=h.lt;have HO:=hid ok;have HS:=hid (Sw.start (x:=(s,a,cap)) h hb);clear h hb ok hs hn;unfold sgV;obtain ⟨R,hR⟩:∃ R,R=c.stray now s:=⟨_,rfl⟩;rw [←hR];have HR:=hid (hR.trans (Cn.stray_eq c now s));clear hR;have hab:=diffV_bd s.ak c.cf.iss;have hun:=HO.out.una;obtain ⟨hun0,hun1,hun2⟩:=hun;obtain ⟨A,hA⟩:∃ A,A=if (syncB c.st=true/\s.has=true/\s.syn=false)/\c.una<=diffV s.ak c.cf.iss/\diffV s.ak c.cf.iss<=c.next then c.acked now s (diffV s.ak c.cf.iss) else c:=⟨_,rfl⟩;have HA:=hid hA;have HAO:=hid (show A.Ok/\A.tries<=12 from by rw [hA];split;(have:=HO.out.acked HN.out HSO.out (show diffV s.ak c.cf.iss<=1099511562240 by omega);exact ⟨this.1,by rw [this.2];decide⟩);exact ⟨HO.out,HT0.out⟩);replace HR:=hid (show R=(let b:Cn:=if A.st=9/\s.fin=true then { A with per:=.aft now 60 } else A;(if 0<segLen s then b.ackNow else b).push now) by rw [HR.out,hA]);clear hA;obtain ⟨b,hbq⟩:∃ b:Cn,b=if A.st=9/\s.fin=true then { A with per:=.aft now 60 } else A:=⟨_,rfl⟩;replace HR:=hid (show R=(if 0<segLen s then b.ackNow else b).push now by rw [HR.out,hbq]);have HB:=hid hbq;have HBO:=hid (show b.Ok from by rw [hbq];split;(exact { HAO.out.1 with per:=Al.aft_ok HN.out (by decide) (by decide) });exact HAO.out.1);clear hbq
 go_enter Tryz.func66,Tryz.ntmps66
 go_upto_region 1 with fail
 change Code.wp _ _ _ _ (w.alloc (.cells (sgL (s,a,cap)).toArray 43));generalize w.alloc (.cells (sgL (s,a,cap)).toArray 43)=w1 at HS ⊢
 go_cut [21] from 8 to 22 (fun v wx=>v= .bool (decide (syncB c.st=true/\s.has=true/\s.syn=false))/\wx=w1)
 case first =>
  have c28:=HS.out.cn.cell 28 (.int .i64 c.st) rfl;have r7:=HS.out.row.cell 7 (.bool s.has) rfl;have r4:=HS.out.row.cell 4 (.bool s.syn) rfl;by_cases h1:syncB c.st=true
  ·have h1b:synced c.st=true:=h1;have H1:=hid h1;clear h1;by_cases h2:s.has=true
   ·by_cases h3:s.syn=false
    ·rw [h2] at r7;rw [h3] at r4;have H2:=hid h2;have H3:=hid h3;clear h2 h3;go_wp2_with fail;refine (synchronized_any c.st _).mono ?_;rintro e w2 ⟨rfl,rfl⟩;rw [h1b];go_wp2_with fail
     go_meet
     case rel=>exact ⟨congrArg Value.bool (decide_eq_true ⟨H1.out,H2.out,H3.out⟩).symm,rfl⟩
    have h3b:s.syn=true:=by simpa using h3
    rw [h2] at r7;rw [h3b] at r4;have H2:=hid h2;have H3:=hid h3;clear h2 h3 h3b;go_wp2_with fail;refine (synchronized_any c.st _).mono ?_;rintro e w2 ⟨rfl,rfl⟩;rw [h1b];go_wp2_with fail
    go_meet
    case rel=>exact ⟨congrArg Value.bool (decide_eq_false (fun h=>H3.out h.2.2)).symm,rfl⟩
   have h2b:s.has=false:=by simpa using h2
   rw [h2b] at r7;have H2:=hid h2;clear h2 h2b;go_wp2_with fail;refine (synchronized_any c.st _).mono ?_;rintro e w2 ⟨rfl,rfl⟩;rw [h1b];go_wp2_with fail
   go_meet
   case rel=>exact ⟨congrArg Value.bool (decide_eq_false (fun h=>H2.out h.2.1)).symm,rfl⟩
  have h1b:synced c.st=false:=by cases hq:synced c.st with | false=>rfl | true=>exact absurd hq h1
  have H1:=hid h1;clear h1;go_wp2_with fail;refine (synchronized_any c.st _).mono ?_;rintro e w2 ⟨rfl,rfl⟩;rw [h1b];go_wp2_with fail
  go_meet
  case rel=>exact ⟨congrArg Value.bool (decide_eq_false (fun h=>H1.out h.1)).symm,rfl⟩
 case rest =>
  obtain ⟨rfl,rfl⟩:=hcut
  go_upto_if 21 with fail
  go_cut [] from 7 to 49 (fun wx=>Sw f w w.heap.size (s,a,cap) A wx)
  case first =>
   by_cases hp:syncB c.st=true/\s.has=true/\s.syn=false
   ·rw [decide_eq_true hp];have HP:=hid hp;clear hp;go_wp2_with fail;refine wp_region_held_drew (S:=(fun W:World=>W.cell? ⟨w.heap.size,3,none⟩=some (.int .i64 s.ak)/\W.cell? ⟨f.C,24,none⟩=some (.int .i64 c.cf.iss))) (by kernel_rfl) (⟨HS.out.row.cell 3 (.int .i64 s.ak) rfl,HS.out.cn.cell 24 (.int .i64 c.cf.iss) rfl⟩) (fun hZ=> ?_);replace HS:=hid HS.out.drew;generalize wc.drew=wcd at HS hZ ⊢;refine wpT 0 ?_;refine wpT 1 ?_;refine wpT 2 ?_;refine wpT 3 ?_;refine wpT 4 ?_;refine wpT 5 ?_;refine wpT 6 ?_;refine wpR 7 fun Kq hKq=> ?_;go_simp;refine (diff_any _ _ _).mono ?_;rintro e w3 ⟨rfl,rfl⟩;go_simp;refine hKq.out _ _ (⟨HS.out.row.cell 3 (.int .i64 s.ak) rfl,HS.out.cn.cell 24 (.int .i64 c.cf.iss) rfl⟩) fun hI=>wpA ?_;clear hKq Kq hZ;have hZ:=hI;clear hI;refine wpT 8 ?_;refine wpAnyH_done (by kernel_rfl) ?_ _;clear hZ;obtain ⟨ak,hak⟩:∃ ak,ak=diffV s.ak c.cf.iss:=⟨_,rfl⟩;rw [←hak] at HA hab ⊢;clear hak
    skip
    by_cases h4:c.una<=ak
    ·by_cases h5:ak<=c.next
     ·have HE:=hid (show A=c.acked now s ak by rw [HA.out];exact if_pos ⟨HP.out,h4,h5⟩);have hdh4:decide (c.una<=ak)=true:=decide_eq_true h4;have hdh5:decide (ak<=c.next)=true:=decide_eq_true h5;clear h4 h5;go_wp2_with fail;refine (tuna_any f c _ HS.out.cn).mono ?_;rintro e w4 ⟨rfl,hb⟩;replace HS:=hid (HS.out.bel hb);clear hb;go_wp2_with fail;refine (tnext_any f c _ HS.out.cn).mono ?_;rintro e w5 ⟨rfl,hb⟩;replace HS:=hid (HS.out.bel hb);clear hb;have q0:=HS.out.row.cell 0 _ rfl;have q1:=HS.out.row.cell 1 _ rfl;have q2:=HS.out.row.cell 2 _ rfl;have q3:=HS.out.row.cell 3 _ rfl;have q4:=HS.out.row.cell 4 _ rfl;have q5:=HS.out.row.cell 5 _ rfl;have q6:=HS.out.row.cell 6 _ rfl;have q7:=HS.out.row.cell 7 _ rfl;have q8:=HS.out.row.cell 8 _ rfl;have q9:=HS.out.row.cell 9 _ rfl;have q10:=HS.out.row.cell 10 _ rfl;have q11:=HS.out.row.cell 11 _ rfl;have q12:=HS.out.row.cell 12 _ rfl;go_wp2_with fail;refine (tacked_any f c now s ak a cap _ HS.out.cn HO.out HN.out HSO.out HS.out.bl hab).mono ?_;rintro e w9 ⟨rfl,hc,hch⟩;replace HS:=hid (HS.out.call hc hch);clear hc hch;clear q0 q1 q2 q3 q4 q5 q6 q7 q8 q9 q10 q11 q12;go_wp2_with fail
      go_meet
      case rel=>exact HS.out.eq HE.out
     have HE:=hid (show A=c by rw [HA.out];exact if_neg (fun h=>by have:=h.2.2;omega));have hdh4:decide (c.una<=ak)=true:=decide_eq_true h4;have hdh5:decide (ak<=c.next)=false:=decide_eq_false h5;clear h4 h5;go_wp2_with fail;refine (tuna_any f c _ HS.out.cn).mono ?_;rintro e w4 ⟨rfl,hb⟩;replace HS:=hid (HS.out.bel hb);clear hb;go_wp2_with fail;refine (tnext_any f c _ HS.out.cn).mono ?_;rintro e w5 ⟨rfl,hb⟩;replace HS:=hid (HS.out.bel hb);clear hb;go_wp2_with fail
     go_meet
     case rel=>exact HS.out.eq HE.out
    have HE:=hid (show A=c by rw [HA.out];exact if_neg (fun h=>by have:=h.2.1;omega));have hdh4:decide (c.una<=ak)=false:=decide_eq_false h4;clear h4;go_wp2_with fail;refine (tuna_any f c _ HS.out.cn).mono ?_;rintro e w4 ⟨rfl,hb⟩;replace HS:=hid (HS.out.bel hb);clear hb;go_wp2_with fail
    go_meet
    case rel=>exact HS.out.eq HE.out
   rw [decide_eq_false hp];have HE:=hid (show A=c by rw [HA.out];exact if_neg (fun h=>hp h.1));clear hp;go_wp2_with fail
   go_meet
   case rel=>exact HS.out.eq HE.out
  case rest =>
   replace HS:=hid hcut;clear hcut HA hun0 hun1 hun2 hab;have c28:=HS.out.cn.cell 28 (.int .i64 A.st) rfl;have r5:=HS.out.row.cell 5 (.bool s.fin) rfl
   go_upto_region 5 with fail
   go_cut [57] from 49 to 58 (fun v wx=>v= .bool (decide (A.st=9/\s.fin=true))/\wx=wc)
   case first =>
    by_cases h6:A.st=9
    ·have H6:=hid h6;rw [h6] at c28;clear h6;by_cases h7:s.fin=true
     ·rw [h7] at r5;have H7:=hid h7;clear h7;go_wp2_with fail
      go_meet
      case rel=>exact ⟨congrArg Value.bool (decide_eq_true ⟨H6.out,H7.out⟩).symm,rfl⟩
     have h7b:s.fin=false:=by simpa using h7
     rw [h7b] at r5;have H7:=hid h7;clear h7 h7b;go_wp2_with fail
     go_meet
     case rel=>exact ⟨congrArg Value.bool (decide_eq_false (fun h=>H7.out h.2)).symm,rfl⟩
    have h6b:(A.st==9)=false:=beq_eq_false_iff_ne.2 h6;have H6:=hid h6;clear h6;go_wp2_with fail
    go_meet
    case rel=>exact ⟨congrArg Value.bool (decide_eq_false (fun h=>H6.out h.1)).symm,rfl⟩
   case rest =>
    obtain ⟨rfl,hwc⟩:=hcut;subst hwc;clear c28 r5
    go_upto_if 57 with fail
    go_cut [] from 57 to 63 (fun wx=>Sw f w w.heap.size (s,a,cap) b wx)
    case first =>
     by_cases hq:A.st=9/\s.fin=true
     ·rw [decide_eq_true hq];have HE:=hid (show b={ A with per:=.aft now 60 } by rw [HB.out];exact if_pos hq);clear hq;go_wp2_with fail;refine (tafter_any _ _ _).mono ?_;rintro e w7 ⟨rfl,hb⟩;replace HS:=hid (HS.out.bel hb);clear hb;have c34:=HS.out.cn.cell 34 (.bool A.per.set) rfl;have c35:=HS.out.cn.cell 35 (.int .i64 A.per.since) rfl;have c36:=HS.out.cn.cell 36 (.int .i64 A.per.ticks) rfl;have f34:=HS.out.cn.free 34;have f35:=HS.out.cn.free 35;have f36:=HS.out.cn.free 36;have HS2:=hid (HS.out.call (((HS.out.cn.set 34 (.bool true) { A with per:=⟨true,A.per.since,A.per.ticks⟩ } rfl rfl rfl rfl rfl).set 35 (.int .i64 now) { A with per:=⟨true,now,A.per.ticks⟩ } rfl rfl rfl rfl rfl).set 36 (.int .i64 60) { A with per:=.aft now 60 } rfl rfl rfl rfl rfl) (.ofC ((((Chg.refl _ _).setCell 34 _).setCell 35 _).setCell 36 _)));go_wp2_with fail
      go_meet
      case rel=>exact HS2.out.eq HE.out
     rw [decide_eq_false hq];have HE:=hid (show b=A by rw [HB.out];exact if_neg hq);clear hq;go_wp2_with fail
     go_meet
     case rel=>exact HS.out.eq HE.out
    case rest =>
     replace HS:=hid hcut;clear hcut HB HAO;have q0:=HS.out.row.cell 0 _ rfl;have q1:=HS.out.row.cell 1 _ rfl;have q2:=HS.out.row.cell 2 _ rfl;have q3:=HS.out.row.cell 3 _ rfl;have q4:=HS.out.row.cell 4 _ rfl;have q5:=HS.out.row.cell 5 _ rfl;have q6:=HS.out.row.cell 6 _ rfl;have q7:=HS.out.row.cell 7 _ rfl;have q8:=HS.out.row.cell 8 _ rfl;have q9:=HS.out.row.cell 9 _ rfl;have q10:=HS.out.row.cell 10 _ rfl;have q11:=HS.out.row.cell 11 _ rfl;have q12:=HS.out.row.cell 12 _ rfl;go_wp2_with fail;refine (tseglen_any s a cap _ HSO.out).mono ?_;rintro e w8 ⟨rfl,hb⟩;replace HS:=hid (HS.out.bel hb);clear hb;clear q0 q1 q2 q3 q4 q5 q6 q7 q8 q9 q10 q11 q12;by_cases h9:0<segLen s
     ·have H9:=hid h9;have hd9:decide (0<segLen s)=true:=decide_eq_true h9;clear h9;go_wp2_with fail;refine (tack_any f b _ HS.out.cn).mono ?_;rintro e w9 ⟨rfl,hc,hch⟩;replace HS:=hid (HS.out.call hc hch);clear hc hch;go_wp2_with fail;refine (tpush_any f b.ackNow now _ HS.out.cn HBO.out.ackNow HN.out).mono ?_;rintro e wz ⟨v,rfl,hl,hc,hch⟩;have HL:=hid (show OwnS wz w.heap.size v _ from OwnS.base hl HS.out.ch.size);have HCZ:=hid hc;have HXZ:=hid (HS.out.ch.trans hch);clear hl hc hch;go_wp2_with fail;go_ret;exact ⟨_,rfl,by rw [HR.out,if_pos H9.out];exact HL.out,by rw [HR.out,if_pos H9.out];exact HCZ.out,HXZ.out⟩
     have H9:=hid h9;have hd9:decide (0<segLen s)=false:=decide_eq_false h9;clear h9;go_wp2_with fail;refine (tpush_any f b now _ HS.out.cn HBO.out HN.out).mono ?_;rintro e wz ⟨v,rfl,hl,hc,hch⟩;have HL:=hid (show OwnS wz w.heap.size v _ from OwnS.base hl HS.out.ch.size);have HCZ:=hid hc;have HXZ:=hid (HS.out.ch.trans hch);clear hl hc hch;go_wp2_with fail;go_ret;exact ⟨_,rfl,by rw [HR.out,if_neg (by have:=H9.out;omega)];exact HL.out,by rw [HR.out,if_neg (by have:=H9.out;omega)];exact HCZ.out,HXZ.out⟩
end
end Go.Proofs.YtclkcmidhhfdmaaGreatDoor
