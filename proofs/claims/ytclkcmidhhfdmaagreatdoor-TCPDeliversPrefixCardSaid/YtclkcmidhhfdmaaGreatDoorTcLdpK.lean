import Derived.Test.YtclkcmidhhfdmaaGreatDoorKb45
namespace Go.Proofs.YtclkcmidhhfdmaaGreatDoor
open Lib (hid)
set_option maxHeartbeats 8000000
set_option maxRecDepth 100000
open Go.ChangeShapes Go.WideShapes Go.ChangeAt Go.RowKit Go.Shelf
theorem walk_TCPDeliversPrefix (W:World) (x:Rw) (hx:x.In) (a1:Option Addr) (len1 cap1:Nat) (zs:List Int) (h1:IsRow .i64 W a1 len1 cap1 zs) (a2:Option Addr) (len2 cap2:Nat) (xs:Nat->Dv) (h2:IsDos W W.heap.size a2 len2 xs) (gl:Gl W) :
  Calls Tryz.prog 3 #[.agg (rwL x).toArray,.slice a1 len1 cap1,.slice a2 len2 cap2] W fun e W'=>e= .returned (.bool true)/\Below W.heap.size W W':=by
 obtain ⟨K,hK⟩:∃ K:Nat,min (len1:Int) 100=(K:Int):=⟨min len1 100,by omega⟩;have hK1:K<=len1:=by omega
 have hKc:K<=cap1:=Nat.le_trans hK1 (row_cap h1).1;have hKm:(K:Int)<=(cap1:Int):=by omega
 have hcm:=(row_cap h1).2;have hK100:K<=1000:=by omega
 have HKM:=hid hK;clear hK;have HFL:=hid (FatAt.of_row h1 hK1 hK100).2;have HROW:=hid h1;clear h1;have HX:=hid hx;have HG:=hid gl;have HD:=hid h2;clear h2;clear hx gl;have HR:=hid (RowB.new W 23 (rwL x));have HB:=hid ((Below.refl W.heap.size W).alloc (Nat.le_refl _) (.cells (rwL x).toArray 23))
 go_enter Tryz.func3,Tryz.ntmps3
 go_upto_region 1 with fail
 change Code.wp _ _ _ _ (W.alloc (.cells (rwL x).toArray 23));obtain ⟨W0,hW0⟩:∃ W0,W0=W.heap.size:=⟨_,rfl⟩;rw [←hW0] at HR ⊢;clear hW0;generalize W.alloc (.cells (rwL x).toArray 23)=w1 at HR HB ⊢;go_wp2_with fail;refine (tsane_any _ (HG.out.below (HB.out.mono HG.out.top))).mono ?_;rintro e w2 ⟨rfl,hb⟩;replace HR:=hid (HR.out.below hb);replace HB:=hid (HB.out.trans (hb.mono HB.out.size));clear hb
 go_upto_region 2 with fail
 refine wp_region_held_drew (S:=(fun W':World=>RowB W0 23 (rwL x) W')) (by kernel_rfl) (HR.out) (fun hZ=> ?_);replace HR:=hid (HR.out.below (Below.refl _ _).drew);replace HB:=hid HB.out.drew;generalize w2.drew=w3 at HR HB hZ ⊢;have HMT:=hid (show Calls Tryz.prog 16 #[.agg #[.int .i64 x.issA,.int .i64 x.issB,.int .i64 x.mss,.int .i64 x.roomA,.int .i64 x.roomB,.int .i64 x.keep],.slice a1 K cap1,.int .i64 600,.int .i64 400] w3 (MetOut x (zs.take K) 600 400 w3) from by have:=tmeetP_any x (zs.take K) a1 cap1 600 400 w3 HX.out (HG.out.below (HB.out.mono HG.out.top)) (row_below HROW.out hK1 hK100 HB.out) (by decide) (by decide);rw [HFL.out] at this;exact this);refine wpL 0 (rwL x) (fun _ h=>RowB.range h) Tryz.underlying23 (by kernel_rfl) ?_ (ha:=by ((try simp only [Act.put,List.setIfInBounds_toArray,List.set_cons_zero,List.set_cons_succ,rwL]);(try rfl)));refine wpT 1 ?_;refine wpT 2 ?_;refine wpT 3 ?_;refine wpT 4 (v:=.int .i64 (K:Int)) ?_ (hy:=by intro w hSw;(try dsimp only at hSw);go_simp;(rw [HKM.out]));refine wpT 5 ?_;refine wpR 6 fun Kq hKq=> ?_;go_simp;refine (HMT.out).mono ?_;rintro e w4 ⟨t,rfl,hpa,hb⟩;replace HR:=hid (HR.out.below hb);have HPA:=hid hpa;have HNW:=hid HB.out.size;replace HB:=hid (HB.out.trans (hb.mono HB.out.size));clear hb hpa;go_simp;refine hKq.out _ _ (HR.out) fun hI=>wpA ?_;clear hKq Kq hZ;have hZ:=hI;clear hI;refine wpT 7 ?_;refine wpT 8 ?_;refine wpT 9 ?_;refine wpT 10 ?_;refine wpT 11 ?_;refine wpAnyH_done (by kernel_rfl) ?_ _;clear hZ HMT;obtain ⟨K2,hK2⟩:∃ K2,K2=min len2 30:=⟨_,rfl⟩;have hl2:len2<=maxLen:=HD.out.1;have HAL:=hid (al0_meet x (zs.take K) 600 400 (by rw [HFL.out];exact hK100) (by decide) (by decide));have HP:=hid (parX_ok x);have HPST:=hid (PrSt.start HPA.out);go_wp2_with fail
 go_loopg [10] K2 (fun g iv wr=>∃ (k:Nat) (tk:Ft) (p:Pr),iv= .int .i64 (k:Int)/\g+k=K2/\PrSt w3.heap.size t w4 tk p wr/\Pr.Al (parX x) p (21*(k:Int)))
 case atStart=>exact ⟨0,t,_,rfl,by omega,HPST.out,HAL.out⟩
 case round =>
  obtain ⟨k,tk,p,rfl,hgk,hst,hal⟩:=hrel;have HS:=hid hst;have HA:=hid hal;have HBW:=hid (HB.out.trans (hst.fr.below HB.out.size (fun kk hkk=>Nat.le_trans HNW.out (HPA.out.lo kk hkk))));clear hst hal;by_cases hk:k<K2
  ·have hk2:(k:Int)<(len2:Int):=by omega
   have hk30:(k:Int)<30:=by omega
   obtain ⟨b,off,rfl,hblt,hcs⟩:=(HD.out.below HBW.out).2 (by omega);obtain ⟨⟨d0,d1,d2,d3⟩,hin⟩:=hcs k (by omega);clear hcs;have HDO:=tdo_any w3.heap.size tk (parX x) p (21*(k:Int)) (xs k) wr HS.out.pa HA.out HP.out (by omega) (by omega) hin;rw [HS.out.eB] at HDO;go_wp2_with fail;refine HDO.mono ?_;rintro e w5 ⟨rfl,t5,k5⟩;have HS5:=hid (HS.out.trans k5);clear HDO k5;have HA5:=hid ((HA.out.doD HP.out (xs k) (by omega) (by omega)).2);clear d0 d1 d2 d3;go_wp2_with fail
   go_roundg (gk-1)
   case measure=>omega
   case rel=>exact ⟨k+1,t5,_,by first | rfl | go_num | (have e:wrap64 ((k:Int)+1)=((k+1:Nat):Int):=(by unfold wrap64;omega);rw [e]),by omega,HS5.out,by have h:=HA5.out;rw [show 21*(k:Int)+21=21*((k+1:Nat):Int) by omega] at h;exact h⟩
  have hge:k=K2:=by omega
  by_cases hk2:(k:Int)<(len2:Int)
  ·have hk30:¬ (k:Int)<30:=by omega
   go_wp2_with fail;go_ret;exact ⟨rfl,HBW.out⟩
  go_wp2_with fail;go_ret;exact ⟨rfl,HBW.out⟩
end Go.Proofs.YtclkcmidhhfdmaaGreatDoor
