import Derived.Test.YtclkcmidhhfdmaaGreatDoorKb7
import Derived.IntWalk
namespace Go.Proofs.YtclkcmidhhfdmaaGreatDoor
open Lib (hid)
section
set_option maxRecDepth 100000
open Go.RowKit Go.Shelf
theorem countF_len {e:Int} {l:List Sp} (h:canonF e l=true):(l.length:Int)<=countF l:=by
 induction l generalizing e with
 | nil=>exact Int.le_refl _
 | cons x l ih =>
  rw [canonF_cons] at h;have:=ih h.2;show ((x::l).length:Int)<=x.2-x.1+countF l;rw [List.length_cons];omega
theorem gaps_in {bl:List Sp} {lo hi:Int} (ht:takesB bl (lo,hi)=true) {k:Nat} (hk:k<(gapsL bl (lo,hi)).length) :
  lo<=(gapsL bl (lo,hi))[k].1/\(gapsL bl (lo,hi))[k].1<(gapsL bl (lo,hi))[k].2/\(gapsL bl (lo,hi))[k].2<=hi:=by
 obtain ⟨hc,hm⟩:=gapsL_spec ht;have h1:=canonF_nth hc hk;have m1:=(hm (gapsL bl (lo,hi))[k].1).1 ⟨_,List.getElem_mem hk,by omega,by omega⟩;have m2:=(hm ((gapsL bl (lo,hi))[k].2-1)).1 ⟨_,List.getElem_mem hk,by omega,by omega⟩;dsimp only at m1 m2;omega
theorem fills_take {rg:List UInt8} {off:Int} {s:List UInt8} {gs:List Sp} {k:Nat} (h:k<gs.length):fillsB rg off s (gs.take (k+1))=fillB (fillsB rg off s (gs.take k)) gs[k].1.toNat (cutB s off gs[k]):=by
 unfold fillsB;rw [List.take_succ_eq_append_getElem h,List.foldl_append];rfl
theorem fills_len {rg:List UInt8} {off:Int} {s:List UInt8} {gs:List Sp} (h1:1<=rg.length) (h:∀ g∈gs,(g.2-g.1).toNat<=rg.length):(fillsB rg off s gs).length=rg.length:=by
 induction gs generalizing rg with
 | nil=>rfl
 | cons g gs ih =>
  have e:(fillB rg g.1.toNat (cutB s off g)).length=rg.length:=length_fillB _ _ _ h1 (Nat.le_trans (length_cutB _ _ _) (h g (by simp)));show (fillsB (fillB rg g.1.toNat (cutB s off g)) off s gs).length=_;rw [ih (by omega) (fun x hx=>by rw [e];exact h x (by simp [hx])),e]
theorem At.chg {B R i:Nat} {v:Value} {w w':World} (h:At B i v w) (hc:Chg R w w') (hne:B≠R):At B i v w':=by
 have hb:=hc.block B h.lt hne;exact ⟨(World.cell?_of_block (a:=⟨B,i,none⟩) hb).trans h.1,(World.frozen?_of_block (a:=⟨B,i,none⟩) hb).trans h.2⟩
theorem SpAt.chg {w w':World} {n₀ R:Nat} {a:Option Addr} {L:List Sp} (h:SpAt w n₀ a L) (hc:Chg R w w') (hn:n₀<=w.heap.size) (hne:0<L.length->∀ ad,a=some ad->ad.block≠R):SpAt w' n₀ a L :=
 ⟨h.small,fun hl=>by
  obtain ⟨b,off,ha,hbl,hcs⟩:=h.cells hl;have hb:=hc.block b (by omega) (hne hl _ ha);exact ⟨b,off,ha,hbl,fun i hi=>⟨(World.cell?_of_block (a:=⟨b,_,none⟩) hb).trans (hcs i hi).1,(World.cell?_of_block (a:=⟨b,_,none⟩) hb).trans (hcs i hi).2⟩⟩⟩
theorem SpAt.tail {w:World} {n₀ b off:Nat} {x:Sp} {L:List Sp} (h:SpAt w n₀ (some ⟨b,off,none⟩) (x::L)):SpAt w n₀ (some ⟨b,off+2,none⟩) L:=by
 refine ⟨by have:=h.small;rw [List.length_cons] at this;omega,fun _=> ?_⟩;obtain ⟨b',off',e,hb,hc⟩:=h.cells (by simp)
 cases e
 refine ⟨b,off+2,rfl,hb,fun i hi=> ?_⟩;obtain ⟨c0,c1⟩:=hc (i+1) (by simpa using hi);rw [show off+2+i*2=off+(i+1)*2 by omega];exact ⟨c0,c1⟩
theorem ext_cut (s:ByteArray) (off:Int) (g:Sp) (i j:Nat) (hi:g.1-off=i) (hj:g.2-off=j):(s.extract i j).data.toList=cutB s.data.toList off g:=by
 unfold cutB;rw [ByteArray.data_extract,Array.toList_extract,List.extract_eq_take_drop,hi,show g.2-g.1=(j:Int)-i by omega]
 congr 1
 omega
set_option maxHeartbeats 4000000 in
theorem put_any (B R lb:Nat) (b:Bx) (off:Int) (s:ByteArray) (w:World) (h:BoxAt B R lb b w) (ok:b.Ok) (hlb:lb<=w.heap.size) (hs:s.size<=4611686018427387904) :
  Calls Tryz.prog 204 #[.pointer (some ⟨B,0,none⟩),.int .i64 off,.string s] w fun e w'=>e= .returned (.tuple #[.int .i64 (b.putN off s.size),.int .i64 (putE off)])/\BoxAt B R lb (b.put off s.data.toList) w'/\Chg2 B R w w':=by
 by_cases hoff:off<0∨1099511627776<off
 ·have HP:=hid (show b.putN off s.size=0/\putE off=130/\b.put off s.data.toList=b from ⟨by unfold Bx.putN;rw [if_pos hoff],by unfold putE;rw [if_pos hoff],by unfold Bx.put;rw [if_pos hoff]⟩);rw [HP.out.1,HP.out.2.1,HP.out.2.2]
  rcases hoff with hoff | hoff
  all_goals
   (try have hoff0:0<=off:=by omega)
   go_enter Tryz.func204,Tryz.ntmps204
   go_wp2_with fail;exact bodyPost_ret (results_tmp2 rfl _ _ _) rfl ⟨rfl,h,Chg2.refl _ _ _⟩
 have HP:=hid (show b.putN off s.size=(if b.hi off s.size<=b.lo off then 0 else countL (gapsL b.bl (b.lo off,b.hi off s.size)))/\putE off=0/\b.put off s.data.toList=(if b.hi off s.data.toList.length<=b.lo off then b else b.putP off s.data.toList (b.lo off,b.hi off s.data.toList.length)) from ⟨by unfold Bx.putN;rw [if_neg hoff],by unfold putE;rw [if_neg hoff],by unfold Bx.put;rw [if_neg hoff]⟩);rw [HP.out.1,HP.out.2.1,HP.out.2.2,show s.data.toList.length=s.size from (Lib.size_eq s).symm];clear HP;obtain ⟨hoff1,hoff2⟩:0<=off/\off<=1099511627776:=by omega
 clear hoff;obtain ⟨lo,hlo⟩:∃ lo,lo=b.lo off:=⟨_,rfl⟩;obtain ⟨hi,hhi⟩:∃ hi,hi=b.hi off s.size:=⟨_,rfl⟩;rw [←hlo,←hhi];unfold Bx.lo at hlo;unfold Bx.hi at hhi;have HLO:=hid hlo;have HHI:=hid hhi;clear hlo hhi;obtain ⟨a,cap,⟨c0,-⟩,⟨c1,-⟩,⟨c2,-⟩,⟨c3,-⟩,-⟩:=h.ats;have HBX:=hid h;have HOK:=hid ok;have k1:=ok.rd0;have k2:=ok.small;have k3:=ok.most;have k4:=ok.one;have k5:=ok.rdnx;have k6:=ok.nxend;have hBl:=h.lt;have hos1:off+(s.size:Int)<=9223372036854775807:=by omega
 have hos2: -9223372036854775808<=off+(s.size:Int):=by omega
 clear h ok
 go_enter Tryz.func204,Tryz.ntmps204
 go_wp2_with fail;refine wp_mono (Q:=onNormal (fun a' w'=>a'={ tmps:= #[.pointer (some ⟨B,0,none⟩),.int .i64 off,.string s,undef,undef,undef,.int .i64 0,.int .i64 0,.pointer (some ⟨w.heap.size,0,none⟩),undef,undef,undef,.pointer (some ⟨B,0,none⟩),.bool false,.int .i64 off,.bool (decide (off<0)),.bool (decide (off<0)),.int .i64 off,.bool (decide (1099511627776<off)),.bool (decide (off<0)||decide (1099511627776<off)),.int .i64 off,.pointer (some ⟨B,0,none⟩),.pointer (some ⟨B,0,none⟩),.pointer (some ⟨B,2,none⟩),.int .i64 b.nx,.int .i64 lo,.int .i64 off,.string s,.int .i64 (s.size:Int),.int .i64 (off+(s.size:Int)),.pointer (some ⟨B,0,none⟩),.int .i64 (b.rd+(b.ring.length:Int)),.int .i64 hi,.agg #[.int .i64 lo,.int .i64 hi],undef,undef,undef,undef,undef,undef,undef,undef,undef,undef,undef,undef,undef,undef,undef,undef,undef,undef,undef,undef,undef,undef,undef,undef,undef,undef,undef,undef,undef,undef,undef,undef,undef,undef,undef,undef,undef,undef,undef,undef,undef,undef,undef,undef,undef,undef,undef,undef,undef,undef,undef,undef,undef,undef,undef,undef,undef,undef,undef,undef,undef,undef,undef,undef,undef,undef,undef,undef,undef,undef,undef,undef,undef,undef,undef,undef,undef,undef,undef,undef,undef,undef,undef,undef,undef,undef],defers:=[] }/\BoxAt B R lb b w'/\At w.heap.size 0 (.int .i64 lo) w'/\At w.heap.size 1 (.int .i64 hi) w'/\Chg2 B R w w'/\w.heap.size+1<=w'.heap.size)) ?_ (onNormal_le ?_)
 ·refine wp_region_held_drew (S:=(fun w':World=>w'.cell? ⟨B,2,none⟩=some (.int .i64 b.nx))) (by kernel_rfl) (c2) (fun hZ=> ?_);refine wpT 0 ?_;refine wpT 1 ?_;refine wpT 2 ?_;refine wpT 3 ?_;refine wpT 4 ?_;refine wpT 5 (v:=.int .i64 lo) ?_ (hy:=by intro w hSw;go_simp;(have:=HLO.out;split <;> (congr 3;omega)));refine wpT 6 ?_;refine wpT 7 ?_;refine wpT 8 ?_;refine wpT 9 (v:=.int .i64 (off+(s.size:Int))) ?_ (hy:=by intro w hSw;go_simp;(first | exact IntWalk.i64_in _ ⟨hos2,hos1⟩ | rw [IntWalk.i64_in _ ⟨hos2,hos1⟩]));refine wpT 10 ?_;refine wpAnyH_ready (rs:=[11,14]) (by kernel_rfl) (by simp) ?_;refine AllReadyH.cons (by simp only [List.getElem?_toArray,List.getElem?_cons_succ,List.getElem?_cons_zero];rfl) (fun Kq hKq=> ?_) (AllReadyH.cons (by simp only [List.getElem?_toArray,List.getElem?_cons_succ,List.getElem?_cons_zero];rfl) (fun Kq hKq=> ?_) AllReadyH.nil)
  focus
   go_simp;refine (end_any B R lb b _ (HBX.out.drew) HOK.out).mono ?_;rintro e w1 ⟨rfl,rfl⟩;go_simp;refine hKq.out _ _ c2 fun hI=>wpA ?_;clear hKq Kq hZ;have hZ:=hI;clear hI;refine wpT 12 (v:=.int .i64 hi) ?_ (hy:=by intro w hSw;go_simp;(have:=HHI.out;split <;> (congr 3;omega)));refine wpT 13 ?_;refine wpR 14 fun Kq hKq=> ?_;go_simp;refine hKq.out _ _ (((Below.refl _ w).alloc (Nat.le_refl _) _ |>.cell (p:=⟨B,2,none⟩) hBl.1).trans c2) fun hI=>wpA ?_;clear hKq Kq hZ;have hZ:=hI;clear hI
  rotate_left 1
  focus
   go_simp;refine hKq.out _ _ (((Below.refl _ w).alloc (Nat.le_refl _) _ |>.cell (p:=⟨B,2,none⟩) hBl.1).trans c2) fun hI=>wpA ?_;clear hKq Kq hZ;have hZ:=hI;clear hI;refine wpR 11 fun Kq hKq=> ?_;go_simp;refine (end_any B R lb b _ ((HBX.out.alloc _).drew) HOK.out).mono ?_;rintro e w1 ⟨rfl,rfl⟩;go_simp;refine hKq.out _ _ (((Below.refl _ w).alloc (Nat.le_refl _) _ |>.cell (p:=⟨B,2,none⟩) hBl.1).trans c2) fun hI=>wpA ?_;clear hKq Kq hZ;have hZ:=hI;clear hI;refine wpT 12 (v:=.int .i64 hi) ?_ (hy:=by intro w hSw;go_simp;(have:=HHI.out;split <;> (congr 3;omega)));refine wpT 13 ?_
  all_goals
   refine wpR 15 fun Kq hKq=> ?_;go_simp;refine hKq.out _ _ (((Below.refl _ w).alloc (Nat.le_refl _) _ |>.cell (p:=⟨B,2,none⟩) hBl.1).trans c2) fun hI=>wpA ?_;clear hKq Kq hZ;have hZ:=hI;clear hI;refine wpAnyH_done (by kernel_rfl) ?_ _;clear hZ;refine ⟨rfl,(HBX.out.alloc _).drew.drew,At.new (W:=w) _ rfl rfl,At.new (W:=w) _ rfl rfl,Chg2.of_below (((Below.refl _ w).alloc (Nat.le_refl _) _).drew.drew),by simp⟩
 rintro a' W1 ⟨rfl,hx1,hp0,hp1,hch,hsz⟩;clear c0 c1 c2 c3 a cap;obtain ⟨a,cap,-,-,-,c3,-,hsp1,hcap1,hap1⟩:=hx1.ats;have HX1:=hid hx1;have HCH:=hid hch;have HP0:=hid hp0;have HP1:=hid hp1;have HSP:=hid hsp1;have HAP:=hid hap1;clear hx1 hch hsp1 hap1;obtain ⟨p0,-⟩:=hp0;obtain ⟨p1,-⟩:=hp1;by_cases hlh:hi<=lo
 ·go_wp2_with fail;exact bodyPost_ret (results_tmp2 rfl _ _ _) rfl ⟨by (try rw [if_pos hlh]);rfl,by (try rw [if_pos hlh]);exact HX1.out,HCH.out⟩
 have htk:takesB b.bl (lo,hi)=true:=takesB_iff.2 ⟨HOK.out.canon,by have:=HLO.out;have:=HHI.out;dsimp only;omega⟩;have HTK:=hid htk;have hlo1:0<=lo/\off<=lo/\b.rd<=lo:=by have:=HLO.out;omega
 have hhi1:hi<=off+s.size/\hi<=b.rd+b.ring.length:=by have:=HHI.out;omega
 clear htk;go_wp2_with fail;refine wp_region_held_drew (S:=(fun w':World=>w'.cell? ⟨B,3,none⟩=some (.slice a b.bl.length cap)/\w'.cell? ⟨w.heap.size,0,none⟩=some (.int .i64 lo)/\w'.cell? ⟨w.heap.size,1,none⟩=some (.int .i64 hi))) (by kernel_rfl) (⟨c3.1,p0,p1⟩) (fun hZ=> ?_);refine wpT 0 ?_;refine wpT 1 ?_;refine wpT 2 ?_;refine wpT 3 ?_;refine wpT 4 ?_;refine wpR 5 fun Kq hKq=> ?_;go_simp;refine (gaps_any W1.drew W1.heap.size a cap b.bl (lo,hi) (HSP.out.below (Below.refl _ _).drew) (Nat.le_refl _)).mono ?_;rintro e W2 ⟨v,rfl,ho,hb2⟩;have hx2:=HX1.out.drew.below hb2;have q0:=HP0.out.below (W':=W2) ((Below.refl _ W1).drew.trans hb2) (show w.heap.size<W1.heap.size by omega);have q1:=HP1.out.below (W':=W2) ((Below.refl _ W1).drew.trans hb2) (show w.heap.size<W1.heap.size by omega);obtain ⟨va,vc,hv,hvs,-,hvb⟩:=ho.at (canonF_len (gapsL_spec HTK.out).1);subst hv;have c3':=c3.below (W':=W2) ((Below.refl _ W1).drew.trans hb2) (show B<W1.heap.size by have:=HX1.out.lt;omega);go_simp;refine hKq.out _ _ (⟨c3'.1,q0.1,q1.1⟩) fun hI=>wpA ?_;clear hKq Kq hZ;have hZ:=hI;clear hI;refine wpT 6 ?_;refine wpAnyH_done (by kernel_rfl) ?_ _;clear hZ;have HX2:=hid hx2;have HQ0:=hid q0;have HQ1:=hid q1;have HVS:=hid hvs;have hB1:=HX1.out.lt;have HVA:=hid (show Apart B R lb (gapsL b.bl (lo,hi)) va from ⟨fun ad e=>(hvb ad e).2.2,fun _ ad e=>by have:=(hvb ad e).1;have h2:W1.heap.size<=ad.block:=this;have:=HCH.out.size;omega⟩);have HC2:=hid (HCH.out.trans (Chg2.of_below (B:=B) (R:=R) ((Below.refl _ W1).drew.trans hb2)));have hs2:w.heap.size+1<=W2.heap.size:=Nat.le_trans hsz hb2.size;have hs2b:W1.heap.size<=W2.heap.size:=hb2.size;have HGI:=hid (fun k (hk:k<(gapsL b.bl (lo,hi)).length)=>gaps_in HTK.out hk);have HGL:=hid (canonF_len (gapsL_spec HTK.out).1);clear hx2 q0 q1 hvs hvb ho c3 c3' p0 p1 hb2 hsz;generalize hgs:gapsL b.bl (lo,hi)=gs at HGI HVS HVA HGL ⊢;have HGS:=hid hgs;clear hgs;have hgl:=HGL.out;go_wp2_with fail
 go_loopw [47] (fun p wr=>∃ k:Nat,k<=gs.length/\p= .int .i64 k/\BoxAt B R lb { b with ring:=fillsB b.ring off s.data.toList (gs.take k) } wr/\At w.heap.size 0 (.int .i64 lo) wr/\At w.heap.size 1 (.int .i64 hi) wr/\SpAt wr W2.heap.size va gs/\Chg2 B R w wr/\W2.heap.size<=wr.heap.size) (fun p _=>gs.length-(intOf p).toNat)
 case atStart=>exact ⟨0,Nat.zero_le _,rfl,HX2.out,HQ0.out,HQ1.out,HVS.out,HC2.out,Nat.le_refl _⟩
 case round =>
  obtain ⟨k,hk,rfl,hbx,hq0,hq1,hvs,hch,hsw⟩:=hrel;have HBk:=hid hbx;have HQ0:=hid hq0;have HQ1:=hid hq1;have HV:=hid hvs;have HCk:=hid hch;by_cases hlt:k<gs.length
  ·obtain ⟨vb,vo,hva,hvl,hcs⟩:=hvs.cells (by omega);have hvne:=HVA.out.2 (by omega) _ hva;subst hva;obtain ⟨g0,g1⟩:=hcs k hlt;obtain ⟨b1,b2,b3⟩:=HGI.out k hlt;obtain ⟨qn,hqn⟩:=Int.eq_ofNat_of_zero_le (show 0<=gs[k].1 by omega);obtain ⟨i,hi1⟩:=Int.eq_ofNat_of_zero_le (show 0<=gs[k].1-off by omega);obtain ⟨j,hj1⟩:=Int.eq_ofNat_of_zero_le (show 0<=gs[k].2-off by omega);have HFT:=hid (fills_take (rg:=b.ring) (off:=off) (s:=s.data.toList) hlt);have HEX:=hid (ext_cut s off gs[k] i j hi1 hj1);have HTN:=hid (show gs[k].1.toNat=qn by omega);have hfl:(fillsB b.ring off s.data.toList (gs.take k)).length=b.ring.length:=fills_len k4 (fun g hg=>by obtain ⟨x,hx,rfl⟩:=List.mem_iff_getElem.1 (List.mem_of_mem_take hg);have:=HGI.out x hx;omega);have hij:i<=j:=by omega
   have hjs:j<=s.size:=by omega
   have hjl:j-i<=b.ring.length:=by omega
   have hqs:qn<=4611686018427387904:=by omega
   generalize gs[k]=gk at *;obtain ⟨gk1,gk2⟩:=gk;dsimp only at g0 g1 b1 b2 b3 hqn hi1 hj1;subst hqn;have hlt2:(k:Int)<(gs.length:Int):=by omega
   have hwl:w.heap.size<wr.heap.size:=by omega
   clear hbx hq0 hq1 hvs hch hcs;go_wp2_with fail;have hx3:=(HBk.out.alloc (.cells #[.int .i64 (qn:Int),.int .i64 gk2] 92)).drew;have HX3:=hid hx3;have z0:At wr.heap.size 0 (.int .i64 (qn:Int)) (wr.alloc (.cells #[.int .i64 (qn:Int),.int .i64 gk2] 92)).drew:=At.new (W:=wr) _ rfl rfl;have z1:At wr.heap.size 1 (.int .i64 gk2) (wr.alloc (.cells #[.int .i64 (qn:Int),.int .i64 gk2] 92)).drew:=At.new (W:=wr) _ rfl rfl;clear hx3;refine wp_region_held_drew (S:=(fun w':World=>w'.cell? ⟨wr.heap.size,0,none⟩=some (.int .i64 (qn:Int))/\w'.cell? ⟨wr.heap.size,1,none⟩=some (.int .i64 gk2))) (by kernel_rfl) (⟨z0.1,z1.1⟩) (fun hZ=> ?_);refine wpT 0 ?_;refine wpT 1 ?_;refine wpT 2 ?_;refine wpT 3 ?_;refine wpT 4 ?_;refine wpT 5 ?_;refine wpT 6 ?_;refine wpT 7 (v:=.int .i64 (i:Int)) ?_ (hy:=by intro w hSw;(obtain ⟨y0,y1⟩:=hSw);go_simp;(exact IntWalk.i64_in (i:Int) ⟨by omega,by omega⟩));refine wpT 8 ?_;refine wpT 9 ?_;refine wpT 10 ?_;refine wpT 11 (v:=.int .i64 (j:Int)) ?_ (hy:=by intro w hSw;(obtain ⟨y0,y1⟩:=hSw);go_simp;(exact IntWalk.i64_in (j:Int) ⟨by omega,by omega⟩));refine wpT 12 (v:=.string (s.extract i j)) ?_ (hy:=by intro w hSw;(obtain ⟨y0,y1⟩:=hSw);go_simp;(first | done | skip));refine wpR 13 fun Kq hKq=> ?_;go_simp;refine (fill_any B R (fillsB b.ring off s.data.toList (gs.take k)) qn (s.extract i j) (wr.alloc (.cells #[.int .i64 (qn:Int),.int .i64 gk2] 92)).drew (by obtain ⟨_,_,h,_⟩:=HX3.out.ats;exact h.1) HX3.out.2.1 HX3.out.1 (by rw [hfl];exact k4) (by rw [hfl];exact k3) (by rw [ByteArray.size_extract,hfl];omega) hqs).mono ?_;rintro e W3 ⟨rfl,hr3,hc3⟩;go_simp;refine hKq.out _ _ (⟨chg_cell hc3 z0.1 (by have:=HBk.out.lt;omega),chg_cell hc3 z1.1 (by have:=HBk.out.lt;omega)⟩) fun hI=>wpA ?_;clear hKq Kq hZ;have hZ:=hI;clear hI;refine wpAnyH_done (by kernel_rfl) ?_ _;clear hZ z0 z1;have hal:Chg2 B R wr (wr.alloc (.cells #[.int .i64 (qn:Int),.int .i64 gk2] 92)).drew:=Chg2.of_below ((Below.refl _ wr).alloc (Nat.le_refl _) _).drew;have hx4:=HX3.out.ring (rg:=fillB (fillsB b.ring off s.data.toList (gs.take k)) qn (s.extract i j).data.toList) (by rw [length_fillB _ _ _ (by rw [hfl];exact k4) (by rw [←Lib.size_eq,ByteArray.size_extract,hfl];omega)]) hr3 hc3;have hne3:w.heap.size≠R:=by omega
   have hbk2:=HBk.out.lt;have y0:=((HQ0.out.alloc (.cells #[.int .i64 (qn:Int),.int .i64 gk2] 92)));have y1:=((HQ1.out.alloc (.cells #[.int .i64 (qn:Int),.int .i64 gk2] 92)))
   have hR3:Hid (BoxAt B R lb { b with ring:=fillsB b.ring off s.data.toList (gs.take (k+1)) } W3/\At w.heap.size 0 (.int .i64 lo) W3/\At w.heap.size 1 (.int .i64 hi) W3/\SpAt W3 W2.heap.size (some ⟨vb,vo,none⟩) gs/\Chg2 B R w W3/\W2.heap.size<=W3.heap.size):=by
    refine ⟨?_,y0.chg hc3.drew0 hne3,y1.chg hc3.drew0 hne3,?_,HCk.out.trans (hal.trans (Chg2.of2 hc3)),?_⟩
    ·rw [HFT.out,HTN.out,←HEX.out];exact hx4
    ·refine SpAt.chg (HV.out.below ((Below.refl _ wr).alloc hsw _)) hc3.drew0 (by simp;omega) (fun _ ad e=>by cases e;exact hvne.2.1)
    have:=hc3.size;simp at this;omega
   clear hx4 y0 y1 hc3 hr3 hal;go_wp2_with fail
   go_roundw
   case rel=>exact ⟨k+1,by omega,by go_num,hR3.out⟩
   case measure=>simp [intOf];omega
  obtain rfl:k=gs.length:=by omega
  rw [List.take_length] at HBk;obtain ⟨a2,cap2,-,-,-,n3,n4,hsp2,hcap2,-⟩:=HBk.out.ats;obtain ⟨n4a,n4b⟩:=n4;obtain ⟨q0a,q0b⟩:=HQ0.out;obtain ⟨q1a,q1b⟩:=HQ1.out;have hBk:=HBk.out.lt;have hsw2:w.heap.size<wr.heap.size:=by omega
  have HN:=hid (HBk.out.set (b':={ b with ring:=fillsB b.ring off s.data.toList gs,nw:=lo }) 4 (.int .i64 lo) rfl rfl (fun _ _=>rfl));have HN3:=hid (n3.other ⟨B,4,none⟩ (.int .i64 lo) (by simp));have HSP2:=hid hsp2;have HN3o:=hid n3;clear hsp2 n3 hbx hq0 hq1 hvs hch;go_wp2_with fail;have HC5:=hid (HCk.out.trans (Chg2.of1 (R:=R) (((Chg.refl B wr).setCell 4 (.int .i64 lo)))));have HP0:=hid (HQ0.out.ob (C:=B) (j:=4) (.int .i64 lo) (by omega));have HP1:=hid (HQ1.out.ob (C:=B) (j:=4) (.int .i64 lo) (by omega));have HV5:=hid (SpAt.chg HV.out ((Chg.refl B wr).setCell 4 (.int .i64 lo)) hsw (fun hp ad e=>(HVA.out.2 hp ad e).1));have hs5:(wr.setCell ⟨B,4,none⟩ (.int .i64 lo)).heap.size=wr.heap.size:=by simp [World.setCell]
  generalize wr.setCell ⟨B,4,none⟩ (.int .i64 lo)=W5 at *;obtain ⟨a5,cap5,-,-,-,m3,-,sp5,cl5,ap5⟩:=HN.out.ats;have HSP5:=hid sp5;have HM3:=hid m3;obtain ⟨m3a,m3b⟩:=m3;obtain ⟨p0a,p0b⟩:=HP0.out;obtain ⟨p1a,p1b⟩:=HP1.out;dsimp only at m3a cl5;clear sp5 q0a q0b q1a q1b n4a n4b HN3 HSP2 HN3o hcap2;refine wp_region_held_drew (S:=(fun w':World=>w'.cell? ⟨w.heap.size,0,none⟩=some (.int .i64 lo)/\w'.cell? ⟨w.heap.size,1,none⟩=some (.int .i64 hi))) (by kernel_rfl) (⟨p0a,p1a⟩) (fun hZ=> ?_);refine wpT 0 ?_;refine wpT 1 ?_;refine wpT 2 ?_;refine wpT 3 ?_;refine wpT 5 ?_;refine wpR 4 fun Kq hKq=> ?_;go_simp;refine hKq.out _ _ (⟨p0a,p1a⟩) fun hI=>wpA ?_;clear hKq Kq hZ;have hZ:=hI;clear hI;refine wpR 6 fun Kq hKq=> ?_;go_simp;refine (add_any W5.drew W5.heap.size a5 cap5 b.bl (lo,hi) (HSP5.out.below (Below.refl _ _).drew) (Nat.le_refl _) cl5).mono ?_;rintro e W6 ⟨v,rfl,ho,hb6⟩;have hb6':Below W5.heap.size W5 W6:=(Below.refl _ W5).drew.trans hb6;have r0:=HP0.out.below (W':=W6) hb6' (by omega);have r1:=HP1.out.below (W':=W6) hb6' (by omega);obtain ⟨va6,vc6,hv,hvs6,hvc6,hvb6⟩:=ho.at (canonF_len (addL_spec HTK.out).1);subst hv;have hx6:=HN.out.below hb6';obtain ⟨_,_,-,-,-,⟨u3a,u3b⟩,-⟩:=hx6.ats;go_simp;refine hKq.out _ _ (⟨r0.1,r1.1⟩) fun hI=>wpA ?_;clear hKq Kq hZ;have hZ:=hI;clear hI;refine wpT 7 ?_;refine wpT 8 ?_;have hBR:w.heap.size≠B:=by omega
  refine wpR 9 fun Kq hKq=> ?_;go_simp;refine hKq.out _ _ (⟨(r0.ob _ (by omega)).1,(r1.ob _ (by omega)).1⟩) fun hI=>wpA ?_;clear hKq Kq hZ;have hZ:=hI;clear hI;refine wpAnyH_done (by kernel_rfl) ?_ _;clear hZ;have HX7:=hid (hx6.setBl va6 vc6 (addL b.bl (lo,hi)) hvs6 hvc6 ⟨fun ad e=>(hvb6 ad e).2.2,fun _ ad e=>by have h1:=(hvb6 ad e).1;have h2:W5.heap.size<=ad.block:=h1;have:=HC5.out.size;omega⟩ (fun _=>ho.ty));have HC7:=hid ((HC5.out.trans (Chg2.of_below hb6')).trans (Chg2.of1 (R:=R) ((Chg.refl B W6).setCell 3 (.slice va6 (addL b.bl (lo,hi)).length vc6))));have HV7:=hid (SpAt.chg (HV5.out.below (hb6'.mono (by omega))) ((Chg.refl B W6).setCell 3 (.slice va6 (addL b.bl (lo,hi)).length vc6)) (by have:=hb6'.size;omega) (fun hp ad e=>(HVA.out.2 hp ad e).1));have hs7:W5.heap.size<=(W6.setCell ⟨B,3,none⟩ (.slice va6 (addL b.bl (lo,hi)).length vc6)).heap.size:=by simp [World.setCell];exact hb6'.size
  clear r0 r1 hx6 hvs6 hvb6 u3a u3b hb6 hb6' ho
  obtain ⟨x,tl,hal⟩:∃ x tl,addL b.bl (lo,hi)=x::tl:=by
   have hm:=(addL_spec HTK.out).2 lo
   cases hc:addL b.bl (lo,hi) with
   | nil=>rw [hc] at hm;exact (mem_nil (hm.2 (.inl ⟨Int.le_refl _,by dsimp only;omega⟩))).elim
   | cons x tl=>exact ⟨x,tl,rfl⟩
  have HAL:=hid hal;rw [hal] at HX7 HC7 HV7 hs7 hvc6 ⊢;clear hal;generalize W6.setCell ⟨B,3,none⟩ (.slice va6 (x::tl).length vc6)=W7 at *;obtain ⟨a7,cap7,-,-,⟨n2a,n2b⟩,⟨n3a,n3b⟩,-,sp7,cl7,ap7⟩:=HX7.out.ats;obtain ⟨xb,xo,hxa,hxl,hxc⟩:=sp7.cells (by simp);have hxne:=ap7.2 (by simp) _ hxa;have hxty:=HX7.out.typed n3a (by simp) _ hxa;subst hxa;obtain ⟨x0,x1⟩:=hxc 0 (by simp);obtain ⟨y1,y2⟩:=x;simp only [Nat.zero_mul,Nat.add_zero,List.getElem_cons_zero] at x0 x1;have HSP7:=hid sp7;dsimp only at n2a n3a cl7;simp only [List.length_cons] at n3a cl7 hvc6 ⊢;clear hxc sp7;have HHI2:=hid (show lo<hi from by omega);by_cases hyn:y1=b.nx
  ·subst hyn;go_wp2_with fail;refine wp_region_held_drew (S:=(fun w':World=>w'.cell? ⟨B,2,none⟩=some (.int .i64 b.nx)/\w'.cell? ⟨B,3,none⟩=some (.slice (some ⟨xb,xo,none⟩) (tl.length+1) cap7)/\w'.cell? ⟨xb,xo,none⟩=some (.int .i64 b.nx))) (by kernel_rfl) (⟨n2a,n3a,x0⟩) (fun hZ=> ?_);refine wpT 0 ?_;refine wpT 1 ?_;refine wpT 2 ?_;refine wpT 3 ?_;refine wpT 4 ?_;refine wpT 5 ?_;refine wpT 6 ?_;refine wpT 7 ?_;refine wpT 8 ?_;refine wpT 9 ?_;refine wpT 10 ?_;refine wpT 11 ?_;refine wpT 12 ?_;refine wpT 13 ?_;refine wpT 14 ?_;refine wpT 15 ?_;refine wpT 16 ?_;refine wpT 17 ?_;refine wpT 18 ?_;refine wpT 19 ?_;refine wpAnyH_done (by kernel_rfl) ?_ _;clear hZ;have hsp9:=HSP7.out.tail;by_cases hc1:cap7=1
   focus
    obtain rfl:tl=[]:=List.eq_nil_of_length_eq_zero (by omega);have hyn:=True.intro;have hsp8:SpAt W7 W7.heap.size (some ⟨xb,xo,none⟩) []:=⟨by simp,fun h=>by simp at h⟩;have HX8:=hid ((HX7.out.set (b':={ ring:=fillsB b.ring off s.data.toList gs,rd:=b.rd,nx:=y2,bl:=(b.nx,y2)::[],nw:=lo }) 2 (.int .i64 y2) rfl rfl (fun _ _=>rfl)).setBl (some ⟨xb,xo,none⟩) 0 [] (by have:=SpAt.chg hsp8 ((Chg.refl B W7).setCell 2 (.int .i64 y2)) (Nat.le_refl _) (fun _ ad e=>by cases e;exact hxne.1);simpa [World.setCell] using this) (by first | omega | simp) ⟨fun ad e=>by cases e;rfl,fun _ ad e=>by cases e;exact hxne⟩ (fun _ ad e=>by cases e;exact hxty.of (heap_setCell_other _ _ _ _ hxne.1)));have HC8:=hid (HC7.out.trans (Chg2.of1 (R:=R) (((Chg.refl B W7).setCell 2 (.int .i64 y2)).setCell 3 (.slice (some ⟨xb,xo,none⟩) 0 0))));have HV8:=hid (SpAt.chg HV7.out (((Chg.refl B W7).setCell 2 (.int .i64 y2)).setCell 3 (.slice (some ⟨xb,xo,none⟩) 0 0)) (by omega) (fun hp ad e=>(HVA.out.2 hp ad e).1));have hs8:W2.heap.size<=((W7.setCell ⟨B,2,none⟩ (.int .i64 y2)).setCell ⟨B,3,none⟩ (.slice (some ⟨xb,xo,none⟩) 0 0)).drew.heap.size:=by simp [World.setCell];omega
   rotate_left 1
   focus
    have hyn:=True.intro;have hsp8:SpAt W7 W7.heap.size (some ⟨xb,xo+2,none⟩) tl:=hsp9;have HX8:=hid ((HX7.out.set (b':={ ring:=fillsB b.ring off s.data.toList gs,rd:=b.rd,nx:=y2,bl:=(b.nx,y2)::tl,nw:=lo }) 2 (.int .i64 y2) rfl rfl (fun _ _=>rfl)).setBl (some ⟨xb,xo+2,none⟩) (cap7-1) tl (by have:=SpAt.chg hsp8 ((Chg.refl B W7).setCell 2 (.int .i64 y2)) (Nat.le_refl _) (fun _ ad e=>by cases e;exact hxne.1);simpa [World.setCell] using this) (by first | omega | simp) ⟨fun ad e=>by cases e;rfl,fun _ ad e=>by cases e;exact hxne⟩ (fun _ ad e=>by cases e;exact hxty.of (heap_setCell_other _ _ _ _ hxne.1)));have HC8:=hid (HC7.out.trans (Chg2.of1 (R:=R) (((Chg.refl B W7).setCell 2 (.int .i64 y2)).setCell 3 (.slice (some ⟨xb,xo+2,none⟩) tl.length (cap7-1)))));have HV8:=hid (SpAt.chg HV7.out (((Chg.refl B W7).setCell 2 (.int .i64 y2)).setCell 3 (.slice (some ⟨xb,xo+2,none⟩) tl.length (cap7-1))) (by omega) (fun hp ad e=>(HVA.out.2 hp ad e).1));have hs8:W2.heap.size<=((W7.setCell ⟨B,2,none⟩ (.int .i64 y2)).setCell ⟨B,3,none⟩ (.slice (some ⟨xb,xo+2,none⟩) tl.length (cap7-1))).drew.heap.size:=by simp [World.setCell];omega
   all_goals
    clear hsp8;clear hsp9;go_wp2_with fail;refine (count_any _ W2.heap.size va vc gs (HV8.out.below (Below.refl _ _).drew) hs8).mono ?_;rintro e W9 ⟨rfl,hb9⟩;have HB9:=hid ((Below.refl _ _).drew.trans hb9);clear hb9;go_wp2_with fail;refine bodyPost_ret (results_tmp2 rfl _ _ _) rfl ⟨?_,?_,HC8.out.trans (Chg2.of_below HB9.out)⟩
    ·rw [HGS.out];rfl
    have:=HX8.out.below HB9.out;unfold Bx.putP;rw [HGS.out,HAL.out]
    simpa [joinNx,joinBl,hyn] using this
  go_wp2_with fail;refine wp_region_held_drew (S:=(fun w':World=>w'.cell? ⟨B,2,none⟩=some (.int .i64 b.nx)/\w'.cell? ⟨B,3,none⟩=some (.slice (some ⟨xb,xo,none⟩) (tl.length+1) cap7)/\w'.cell? ⟨xb,xo,none⟩=some (.int .i64 y1))) (by kernel_rfl) (⟨n2a,n3a,x0⟩) (fun hZ=> ?_);refine wpT 0 ?_;refine wpT 1 ?_;refine wpT 2 ?_;refine wpT 3 ?_;refine wpT 4 ?_;refine wpT 5 ?_;refine wpT 6 ?_;refine wpT 7 ?_;refine wpT 8 ?_;refine wpT 9 ?_;refine wpT 10 ?_;refine wpT 11 ?_;refine wpT 12 ?_;refine wpT 13 ?_;refine wpT 14 ?_;refine wpT 15 ?_;refine wpT 16 ?_;refine wpT 17 ?_;refine wpT 18 ?_;refine wpT 19 ?_;refine wpAnyH_done (by kernel_rfl) ?_ _;clear hZ;have HX8:=HX7;have HC8:=HC7;have HV8:=HV7;have hs8:W2.heap.size<=W7.drew.heap.size:=by show W2.heap.size<=W7.heap.size;omega
  go_wp2_with fail;refine (count_any _ W2.heap.size va vc gs (HV8.out.below (Below.refl _ _).drew) hs8).mono ?_;rintro e W9 ⟨rfl,hb9⟩;have HB9:=hid ((Below.refl _ _).drew.trans hb9);clear hb9;go_wp2_with fail;refine bodyPost_ret (results_tmp2 rfl _ _ _) rfl ⟨?_,?_,HC8.out.trans (Chg2.of_below HB9.out)⟩
  ·rw [HGS.out];rfl
  have:=HX8.out.below HB9.out;unfold Bx.putP;rw [HGS.out,HAL.out]
  simpa [joinNx,joinBl,hyn] using this
end
section
set_option maxRecDepth 100000
open Go.RowKit Go.Shelf
theorem byteInfo:(Tryz.prog.info? 5).map (fun i=>(i.zero,i.size,i.bytes))=some (some (.int .u8 0),1,1):=by kernel_rfl
theorem ring_of_own {w:World} {base g n cap:Nat} {rg:List UInt8} (h:w.ownsRow base 5 1 (.slice (some ⟨g,0,none⟩) n cap) n (Lib.byteCells rg)) (hc:cap=n):RingAt g rg w:=by
 rcases h.2 with ⟨e,_⟩ | ⟨g',cap',cur,e,_,hg,_,_,hcs,ht⟩
 ·cases e
 cases e
 subst hc;rw [Nat.mul_one] at hcs ht;rw [List.take_of_length_le (by rw [Array.length_toList];omega)] at ht;unfold RingAt;rw [hg,←ht]
theorem new_box (n:Nat) (h1:1<=n) (h2:n<=8192) (w:World) :
  Calls Tryz.prog 98 #[.int .i64 n] w fun e w'=>∃ B R,e= .returned (.tuple #[.pointer (some ⟨B,0,none⟩),.int .i64 0])/\(∀ lb,BoxAt B R lb (bx0 n) w')/\Below w.heap.size w w'/\w.heap.size<=B/\w.heap.size<=R:=by
 obtain ⟨i0,hi,hz0,hz1,hz2⟩:=info_parts byteInfo
 go_enter Tryz.func98,Tryz.ntmps98
 go_wp2_with (first | (at_make;refine wpList_make_full _ rfl _ _ _ rfl w.heap.size 5 i0 _ 1 Tryz.underlying112 hi hz0 hz1 _ _ _ _ n rfl rfl rfl rfl (by rw [hz2];omega) (by unfold maxLen;omega) (Nat.le_refl _) ?_))
 intro w1 hown hgr
 have hR:RingAt w.heap.size (List.replicate n 0) w1:=by
  refine ring_of_own (base:=w.heap.size) (n:=n) (cap:=n) ?_ rfl
  have e:(madeCells #[Value.int .u8 0] n).toList=Lib.byteCells (List.replicate n 0):=by
   apply List.ext_getElem
   ·simp [madeCells,Lib.byteCells]
   intro i h1 h2
   simp [madeCells,Lib.byteCells,Nat.mod_one]
  rw [←e];exact hown
 have hlt:=(World.ownsRow.lt hown w.heap.size rfl).2;have hb:Below w.heap.size w w1:=grown_below hgr (Nat.le_refl _) (fun k e=>by cases e);have HR:=hid hR;have HB:=hid hb;clear hown hgr hR hb;go_wp2_with fail;refine bodyPost_ret (results_tmp2 rfl _ _ _) rfl ⟨w1.heap.size,w.heap.size,rfl,fun lb=>⟨by omega,?_,none,0,?_,⟨⟨by simp [bx0],fun h=>by simp [bx0] at h⟩,fun h=>by simp [bx0] at h⟩,by simp [bx0],fun ad e=>(by cases e),fun h=>by simp [bx0] at h⟩,HB.out.alloc HB.out.size _,HB.out.size,Nat.le_refl _⟩
 ·unfold RingAt;rw [Below.heap_alloc _ _ _ hlt];exact HR.out
 rw [heap_alloc_new];unfold bxCells bx0
 simp
theorem bx0_ok (n:Nat) (h1:1<=n) (h2:n<=8192):(bx0 n).Ok:=by
 have e:(bx0 n).ring.length=n:=by simp [bx0]
 refine ⟨by omega,by omega,Int.le_refl _,Int.le_refl _,?_,?_,rfl,fun i hi=>(mem_nil hi).elim⟩
 ·rw [e];show (0:Int)<=0+n;omega
 rw [e];show (0:Int)+n<=_;omega
theorem len_any (B R lb:Nat) (b:Bx) (w:World) (h:BoxAt B R lb b w) (ok:b.Ok) :
  Calls Tryz.prog 80 #[.pointer (some ⟨B,0,none⟩)] w fun e w'=>e= .returned (.int .i64 (b.nx-b.rd))/\w'=w.drew:=by
 obtain ⟨a,cap,-,⟨c1,-⟩,⟨c2,-⟩,-⟩:=h.ats;have h1:=ok.rd0;have h2:=ok.small;have h3:=ok.most;have h4:=ok.rdnx;have h5:=ok.nxend
 go_enter Tryz.func80,Tryz.ntmps80
 go_wp2
 go_region
 all_goals
  go_wp2
  go_ret;exact ⟨rfl,rfl⟩
theorem room_any (B R lb:Nat) (b:Bx) (w:World) (h:BoxAt B R lb b w) (ok:b.Ok) :
  Calls Tryz.prog 170 #[.pointer (some ⟨B,0,none⟩)] w fun e w'=>e= .returned (.int .i64 (b.rd+b.ring.length-b.nx))/\w'=w.drew.drew:=by
 obtain ⟨a,cap,-,-,⟨c2,-⟩,-⟩:=h.ats;have h1:=ok.rd0;have h2:=ok.small;have h3:=ok.most;have h4:=ok.rdnx;have h5:=ok.nxend;have hw:=IntWalk.i64_in (b.rd+(b.ring.length:Int)-b.nx) ⟨by omega,by omega⟩
 go_enter Tryz.func170,Tryz.ntmps170
 go_wp2_with fail
 go_region_with (first | (go_at_call 205;refine (end_any B R lb b _ h.drew ok).mono ?_;rintro e w' ⟨rfl,rfl⟩))
 all_goals
  go_wp2_with fail;go_ret;exact ⟨rfl,rfl⟩
end
section
set_option maxRecDepth 100000
open Go.RowKit Go.Shelf
theorem ring_cell {W:World} {g:Nat} {rg:List UInt8} (h:RingAt g rg W) (j:Nat) (hj:j<rg.length):W.cell? ⟨g,j,none⟩=some (.int .u8 (rg[j].toNat:Int)):=by
 rw [cell_of_row _ _ _ _ _ _ h]
 simp [Lib.byteCells,hj]
theorem ring_conv {W:World} {g:Nat} {rg:List UInt8} (h:RingAt g rg W) (n cap:Nat) (hn:rg.length=n):(convert 112 9 (.slice (some ⟨g,0,none⟩) n cap)).run Tryz.prog W= .ok (.string ⟨rg.toArray⟩) W:=by
 subst hn;refine run_convert_bytes_back _ _ _ 5 _ _ rg Tryz.underlying112 Tryz.underlying5 Tryz.underlying9 fun j hj=> ?_;rw [Addr.add_lit,Nat.zero_add];exact ring_cell h j hj
theorem splice_bytes (z:List UInt8) (o:Nat) (cs:List UInt8):splice (Lib.byteCells z) o (Lib.byteCells cs)=Lib.byteCells (splB z o cs):=by
 rw [byteCells_splB,splice,Lib.byteCells_length,List.append_assoc]
theorem ring_src {W:World} {g:Nat} {rg:List UInt8} (h:RingAt g rg W) (o m:Nat):∀ j v,(Lib.byteCells ((rg.drop o).take m))[j]? =some v->W.cell? ((⟨g,o,none⟩:Addr).add j)=some v:=by
 intro j v hv;rw [Addr.add_lit]
 have hj:j<((rg.drop o).take m).length:=by
  rcases Nat.lt_or_ge j ((rg.drop o).take m).length with h1 | h1
  ·exact h1
  rw [List.getElem?_eq_none (by rw [Lib.byteCells_length];exact h1)] at hv;cases hv
 rw [List.length_take,List.length_drop] at hj;rw [ring_cell h (o+j) (by omega)];rw [←hv];simp only [Lib.byteCells,List.getElem?_map];rw [List.getElem?_take_of_lt (by omega),List.getElem?_drop,List.getElem?_eq_getElem (by omega)];rfl
theorem read_two (rg:List UInt8) (o q m:Nat) (ho:o<rg.length) (hq:q<=rg.length) (hm:m=min (rg.length-o) q) :
  splB (splB (List.replicate q 0) 0 ((rg.drop o).take m)) m (rg.take (q-m))=(rg.drop o).take q++rg.take (q-(rg.length-o)):=by
 have l1:((rg.drop o).take m).length=m:=by rw [List.length_take,List.length_drop];omega
 have l2:(rg.take (q-m)).length=q-m:=by rw [List.length_take];omega
 have e1:splB (List.replicate q 0) 0 ((rg.drop o).take m)=(rg.drop o).take m++List.replicate (q-m) 0:=by
  unfold splB;rw [l1,List.take_zero,List.nil_append,Nat.zero_add,List.drop_replicate]
 have hd:((rg.drop o).take m++List.replicate (q-m) 0).drop (m+(q-m))=[]:=List.drop_eq_nil_of_le (by rw [List.length_append,l1,List.length_replicate];omega);rw [e1];unfold splB;rw [List.take_left' l1,l2,hd,List.append_nil,show q-(rg.length-o)=q-m by omega]
 congr 1
 by_cases h:q<=rg.length-o
 ·rw [show m=q by omega]
 rw [show m=rg.length-o by omega,List.take_of_length_le (by rw [List.length_drop];omega),List.take_of_length_le (by rw [List.length_drop];omega)]
set_option maxHeartbeats 4000000 in
theorem take_any (B R lb:Nat) (b:Bx) (k:Int) (w:World) (h:BoxAt B R lb b w) (ok:b.Ok) :
  Calls Tryz.prog 122 #[.pointer (some ⟨B,0,none⟩),.int .i64 k] w fun e w'=>e= .returned (.string ⟨(b.takeS k).toArray⟩)/\BoxAt B R lb (b.take k) w'/\Chg B w w':=by
 have HBX:=hid h;have HOK:=hid ok;have k1:=ok.rd0;have k2:=ok.small;have k3:=ok.most;have k4:=ok.one;have k5:=ok.rdnx;have k6:=ok.nxend;clear h ok;by_cases hz:min k (b.nx-b.rd)<=0
 ·have HR:=hid (show b.takeS k=[]/\b.take k=b from ⟨by unfold Bx.takeS;rw [if_pos hz],by unfold Bx.take;rw [if_pos hz]⟩);rw [HR.out.1,HR.out.2];by_cases hk:b.nx-b.rd<k
  all_goals
   go_enter Tryz.func122,Tryz.ntmps122
   go_wp2_with fail;refine (len_any B R lb b _ HBX.out HOK.out).mono ?_;rintro e w1 ⟨rfl,rfl⟩;have hle:k<=0∨b.nx-b.rd<=0:=by omega
   (first | (have h1:b.nx-b.rd<=0:=by omega) | (have h1:k<=0:=by omega))
   clear hz hle;go_wp2_with fail;go_ret;exact ⟨rfl,HBX.out.drew,(Chg.refl _ _).drew⟩
 obtain ⟨q,hq⟩:=Int.eq_ofNat_of_zero_le (show 0<=min k (b.nx-b.rd) by omega);have HR:=hid (show b.takeS k=readB b.ring b.rd.toNat q/\b.take k={ b with rd:=b.rd+q } from ⟨by unfold Bx.takeS;rw [if_neg hz,hq];try rfl,by unfold Bx.take;rw [if_neg hz,hq];try rfl⟩);rw [HR.out.1,HR.out.2];obtain ⟨r,hr⟩:=Int.eq_ofNat_of_zero_le k1;have hrq:b.rd=(r:Int):=hr;have hq1:1<=q:=by omega
 have hq2:q<=b.ring.length:=by omega
 obtain ⟨n,hn⟩:∃ n,n=b.ring.length:=⟨_,rfl⟩;have hmod:(r:Int).tmod (n:Int)=((r%n:Nat):Int):=by rw [Int.tmod_eq_emod_of_nonneg (by omega)];rfl
 obtain ⟨o,ho⟩:∃ o,o=r%n:=⟨_,rfl⟩;have hon:o<n:=by rw [ho];exact Nat.mod_lt _ (by omega)
 rw [←ho] at hmod;have HRO:=hid (show b.rd.toNat%b.ring.length=o by rw [ho,hrq,hn];try rfl);obtain ⟨i0,hi,hz0,hz1,hz2⟩:=info_parts byteInfo;have HH:Hid (∀ v:Int,v=(q:Int)->True):=fun _ _=>trivial;clear HH;by_cases hk:b.nx-b.rd<k
 all_goals
  (first | (have hv:b.nx-(r:Int)=(q:Int):=by omega) | (have hv:k=(q:Int):=by omega))
  have HN:=hid hn;rw [←hn] at k2 k3 k4 k6 hq2;have hno:n≠o:=by omega
  have hno2:o<=n:=by omega
  have hnz:n≠0:=by omega
  have hqp:¬ ((q:Int)<=0):=by omega
  clear hz hq hr ho hn
  go_enter Tryz.func122,Tryz.ntmps122
  go_wp2_with fail;refine (len_any B R lb b _ HBX.out HOK.out).mono ?_;rintro e w1 ⟨rfl,rfl⟩
  go_wp2_with (first | (at_make;refine wpList_make_full _ rfl _ _ _ rfl w.heap.size 5 i0 _ 1 Tryz.underlying112 hi hz0 hz1 _ _ _ _ q rfl rfl rfl rfl (by rw [hz2];omega) (by unfold maxLen;omega) (Nat.le_refl _) ?_))
  intro w2 hown hgr;have hlt2:=(World.ownsRow.lt hown w.heap.size rfl).2
  have hrg:RingAt w.heap.size (List.replicate q 0) w2:=by
   refine ring_of_own (base:=w.heap.size) (n:=q) (cap:=q) ?_ rfl
   have e:(madeCells #[Value.int .u8 0] q).toList=Lib.byteCells (List.replicate q 0):=by
    apply List.ext_getElem
    · simp [madeCells,Lib.byteCells]
    · intro i h1 h2
      simp [madeCells,Lib.byteCells,Nat.mod_one]
   rw [←e];exact hown
  have hb2:Below w.heap.size w w2:=(Below.refl _ w).drew.trans (grown_below hgr (Nat.le_refl _) (fun k e=>by cases e));have hx2:=HBX.out.below hb2;obtain ⟨a,cap,⟨c0,-⟩,⟨c1,f1⟩,-⟩:=hx2.ats;rw [←HN.out] at c0;rw [hrq] at c1;have HRG:=hid hrg;have HB2:=hid hb2;have HX2:=hid hx2;have hBl:=HBX.out.lt;clear hown hgr hrg hb2 hx2;obtain ⟨m,hm⟩:∃ m,m=min (n-o) q:=⟨_,rfl⟩;have hml:m<=q:=by omega
  have HM:=hid hm;have HCL:=hid (show (Lib.byteCells ((b.ring.drop o).take m)).length=Nat.min (n-o) q by rw [Lib.byteCells_length,List.length_take,List.length_drop,←HN.out];show _=min _ _;omega);have HCL2:=hid (show (Lib.byteCells (b.ring.take (q-m))).length=Nat.min n (q-m) by rw [Lib.byteCells_length,List.length_take,←HN.out];show _=min _ _;omega);have HCM:=hid (show (Lib.byteCells ((b.ring.drop o).take m)).length=m by rw [Lib.byteCells_length,List.length_take,List.length_drop,←HN.out];omega);clear hm;go_wp2_with fail;refine wp_region_held_drew (S:=(fun w':World=>w'.cell? ⟨B,0,none⟩=some (.slice (some ⟨R,0,none⟩) n n)/\w'.cell? ⟨B,1,none⟩=some (.int .i64 (r:Int)))) (by kernel_rfl) (⟨c0,c1⟩) (fun hZ=> ?_);refine wpT 0 ?_;refine wpT 1 ?_;refine wpT 2 ?_;refine wpT 3 ?_;refine wpT 4 ?_;refine wpT 5 ?_;refine wpT 6 ?_;refine wpT 7 ?_;refine wpT 8 ?_;refine wpT 9 ?_;refine wpT 10 ?_;refine wpT 11 ?_;refine wpT 12 ?_;refine wpT 13 ?_;refine wpT 14 ?_;refine wpT 15 ?_;refine wpR 16 fun Kq hKq=> ?_;refine step_copy_splice rfl _ _ _ _ rfl 5 Tryz.underlying112 (by kernel_rfl) (some ⟨w.heap.size,0,none⟩) (some ⟨R,o,none⟩) q q (n-o) (n-o) rfl rfl w.heap.size 0 (Lib.byteCells (List.replicate q 0)) 5 HRG.out (Lib.byteCells ((b.ring.drop o).take m)) HCL.out (fun _=>⟨rfl,_,rfl,ring_src HX2.out.2.1 o m⟩) (by rw [Lib.byteCells_length,Lib.byteCells_length,List.length_take,List.length_replicate];omega) (Lib.byteCells_one _) w.heap.size w HB2.out.drew (Nat.le_refl _) ?_;intro w3 hr3 hb3;rw [HCM.out];have hx3:=HBX.out.below hb3;obtain ⟨a3,cap3,⟨d0,-⟩,⟨d1,g1⟩,-⟩:=hx3.ats;rw [←HN.out] at d0;rw [hrq] at d1;refine hKq.out _ _ (⟨d0,d1⟩) fun hI=>wpA ?_;clear hKq Kq hZ;have hZ:=hI;clear hI;refine wpT 17 ?_;refine wpAnyH_done (by kernel_rfl) ?_ _;clear hZ c0 c1 f1;have HR3:=hid (show RingAt w.heap.size (splB (List.replicate q 0) 0 ((b.ring.drop o).take m)) w3 from by have:=hr3.out;rw [splice_bytes] at this;exact this);have HB3:=hid hb3;have HX3:=hid hx3;clear hr3 hb3 hx3;go_wp2_with fail;refine wp_region_held_drew (S:=(fun w':World=>w'.cell? ⟨B,0,none⟩=some (.slice (some ⟨R,0,none⟩) n n))) (by kernel_rfl) (d0) (fun hZ=> ?_);refine wpT 0 ?_;refine wpT 1 ?_;refine wpT 2 ?_;refine wpT 3 ?_;refine wpT 4 ?_;refine wpT 5 ?_;refine wpT 6 ?_;refine wpR 7 fun Kq hKq=> ?_;refine step_copy_splice rfl _ _ _ _ rfl 5 Tryz.underlying112 (by kernel_rfl) _ (some ⟨R,0,none⟩) (q-m) (q-m) n n rfl rfl w.heap.size m (Lib.byteCells (splB (List.replicate q 0) 0 ((b.ring.drop o).take m))) 5 HR3.out (Lib.byteCells (b.ring.take (q-m))) HCL2.out (fun hp=>⟨by rw [HCL2.out] at hp;have hp2:0<min n (q-m):=hp;simp;omega,_,rfl,by have:=ring_src HX3.out.2.1 0 (q-m);rw [List.drop_zero] at this;exact this⟩) (by rw [Lib.byteCells_length,Lib.byteCells_length,List.length_take,length_splB _ _ _ (by rw [List.length_take,List.length_replicate,List.length_drop];omega),List.length_replicate];omega) (Lib.byteCells_one _) w.heap.size w HB3.out.drew (Nat.le_refl _) ?_;intro w4 hr4 hb4;have hx4:=HBX.out.below hb4;obtain ⟨a4,cap4,⟨u0,-⟩,⟨u1,u1f⟩,-⟩:=hx4.ats;rw [←HN.out] at u0;rw [hrq] at u1;refine hKq.out _ _ (u0) fun hI=>wpA ?_;clear hKq Kq hZ;have hZ:=hI;clear hI;refine wpAnyH_done (by kernel_rfl) ?_ _;clear hZ
  have hr5:RingAt w.heap.size (readB b.ring b.rd.toNat q) w4:=by
   have:=hr4.out;rw [splice_bytes,read_two _ _ _ _ (by rw [←HN.out];exact hon) (by rw [←HN.out];exact hq2) (by rw [←HN.out];exact HM.out)] at this;unfold RingAt readB;rw [HRO.out];exact this
  have hrl:(readB b.ring b.rd.toNat q).length=q:=by
   unfold readB;rw [HRO.out,List.length_append,List.length_take,List.length_drop,List.length_take,←HN.out];omega
  have hcv:∀ v:Value,(convert 112 9 (.slice (some ⟨w.heap.size,0,none⟩) q q)).run Tryz.prog (w4.setCell ⟨B,1,none⟩ v)= .ok (.string ⟨(readB b.ring b.rd.toNat q).toArray⟩) (w4.setCell ⟨B,1,none⟩ v):=fun v=>ring_conv (by unfold RingAt;rw [heap_setCell_other w4 ⟨B,1,none⟩ _ v (by show w.heap.size≠B;omega)];exact hr5) q q hrl;have hcv2:=hcv (.int .i64 ((r:Int)+(q:Int)));have HX5:=hid (hx4.set (b':={ b with rd:=b.rd+q }) 1 (.int .i64 (b.rd+q)) rfl rfl (fun _ _=>rfl));have HC5:=hid ((Chg.of_below (B:=B) hb4).setCell 1 (.int .i64 (b.rd+q)));rw [hrq] at HX5 HC5;clear hr4 hb4 hx4 hcv hr5 hrl HR3 HB3 HX3 HRG HB2 HX2;go_wp2_with fail
  all_goals
   go_ret
   first
   | exact ⟨rfl,HX5.out,HC5.out⟩
   | (
     have hqm:q=m:=by assumption
     subst hqm;exact ⟨rfl,HX5.out,HC5.out⟩)
end

structure PI (S:List UInt8) (N:Nat) (b:Bx) (got:List UInt8):Prop where
 ok:b.Ok
 len:S.length=N
 small:N<=1000
 str:b.Str S
 rd:b.rd=got.length
 got:got=S.take got.length
 has:∀ i,b.has i->i<N
theorem PI.nx {S:List UInt8} {N:Nat} {b:Bx} {got:List UInt8} (h:PI S N b got):b.nx<=N:=by
 rcases (show b.nx<=N∨(N:Int)<b.nx by omega) with g | g
 ·exact g
 have:=h.has N (.inl (by omega));omega
theorem PI.start {S:List UInt8} {N:Nat} (hl:S.length=N) (hs:N<=1000) {n:Nat} (h1:1<=n) (h2:n<=8192):PI S N (bx0 n) []:=by
 refine ⟨bx0_ok n h1 h2,hl,hs,fun i _ hh=> ?_,rfl,by simp,fun i hh=> ?_⟩
 ·rcases hh with ⟨_,g⟩ | g
  ·have:(i:Int)<0:=g;omega
  exact (mem_nil g).elim
 rcases hh with ⟨a,g⟩ | g
 ·have:i<0:=g;omega
 exact (mem_nil g).elim
theorem PI.put {S:List UInt8} {N:Nat} {b:Bx} {got:List UInt8} (h:PI S N b got) {off to:Nat} (h1:off<=to) (h2:to<=N) {s:List UInt8} (hs:s=(S.drop off).take (to-off)) :
  PI S N (b.put off s) got/\(b.put off s).rd=b.rd/\(b.put off s).ring.length=b.ring.length/\b.nx<=(b.put off s).nx/\(off<=b.nx->b.nx<to->b.nx<b.rd+b.ring.length->b.nx<(b.put off s).nx):=by
 have hsm:=h.small;have hl:=h.len;have hsl:s.length=to-off:=by rw [hs,List.length_take,List.length_drop];omega
 obtain ⟨p1,p2,p3,p4,p5⟩:=Bx.put_spec h.ok s (off:=off) (by omega) (by omega);refine ⟨⟨p1,hl,hsm,?_,p2.trans h.rd,h.got,fun i hi=> ?_⟩,p2,p3,p4,fun g1 g2 g3=> ?_⟩
 ·refine h.str.put h.ok s (by omega) (fun i i1 i2=> ?_);rw [hsl] at i2;rw [hs,List.getElem?_take_of_lt (by omega),List.getElem?_drop]
  congr 1
  omega
 ·rcases (p5 i).1 hi with g | g
  ·exact h.has i g
  rw [hsl] at g;omega
 rcases (show b.nx=(b.put off s).nx∨b.nx<(b.put off s).nx by omega) with e | e
 ·exfalso
  apply p1.nope
  rw [←e];exact (p5 _).2 (.inr ⟨g1,by rw [hsl];omega,g3⟩)
 exact e
theorem PI.take {S:List UInt8} {N:Nat} {b:Bx} {got:List UInt8} (h:PI S N b got) (k:Int) :
  PI S N (b.take k) (got++b.takeS k)/\(b.take k).nx=b.nx/\(b.take k).ring.length=b.ring.length/\((b.takeS k).length:Int)=max 0 (min k (b.nx-b.rd)):=by
 have hsm:=h.small;have hl:=h.len;have hnx:=h.nx;have h2:=h.ok.rdnx;have hm:=h.ok.most;obtain ⟨q,q1,q2,q3,q4,q5⟩:=h.str.take h.ok (r:=got.length) h.rd k;obtain ⟨t1,t2,t3,t4⟩:=b.take_has k;refine ⟨⟨h.ok.take k (by rw [q2];omega),hl,hsm,q3,?_,?_,fun i hi=>h.has i ((t4 i).1 hi)⟩,t1,by rw [t3],by rw [q4];exact q1⟩
 ·rw [q2,h.rd,List.length_append,q4];omega
 have hq:got.length+q<=N:=by have:=h.rd;omega
 apply List.ext_getElem?
 intro i;by_cases h1:i<got.length
 ·rw [List.getElem?_append_left h1,List.getElem?_take_of_lt (by rw [List.length_append];omega)]
  conv=>lhs;rw [h.got]
  rw [List.getElem?_take_of_lt h1]
 by_cases h3:i<got.length+q
 ·rw [List.getElem?_append_right (by omega),q5 _ (by omega),List.getElem?_take_of_lt (by rw [List.length_append];omega)]
  congr 1
  omega
 rw [List.getElem?_eq_none (by rw [List.length_append];omega),List.getElem?_eq_none (by rw [List.length_take,List.length_append];omega)]
theorem PI.got_le {S:List UInt8} {N:Nat} {b:Bx} {got:List UInt8} (h:PI S N b got):got.length<=N:=by
 have:=h.rd;have:=h.nx;have:=h.ok.rdnx;omega
end Go.Proofs.YtclkcmidhhfdmaaGreatDoor
