import Derived.Test.YtclkcmidhhfdmaaGreatDoorKb3
import Derived.Test.YtclkcmidhhfdmaaGreatDoorKb8
namespace Go.Proofs.YtclkcmidhhfdmaaGreatDoor
open Lib (hid)
section
open Go.RowKit Go.Shelf
def cfV (c:Cf):Value:=.agg #[.int .i64 c.fp,.int .i64 c.tp,.int .i64 c.iss,.int .i64 c.mss,.int .i64 c.room,.int .i64 c.keep]
theorem tpick_any (c n:Int) (w:World) (hc:In64 c) (hn:1<=n) (hn2:n<=9223372036854775807) :
  Calls Tryz.prog 29 #[.int .i64 c,.int .i64 n] w fun r w'=>r= .returned (.int .i64 (pickV c n))/\w=w':=by
 obtain ⟨h1,h2⟩:=hc;by_cases c1:c<0
 ·have H:=hid (show -((c+1).tmod n)=pickV c n by unfold pickV;rw [if_pos c1,←Int.neg_tmod,Int.tmod_eq_emod_of_nonneg (by omega)])
  go_enter Tryz.func29,Tryz.ntmps29
  go_wp2
  go_ret;exact ⟨by rw [←H.out];rfl,rfl⟩
 have H:=hid (show c%n=pickV c n by unfold pickV;rw [if_neg c1])
 go_enter Tryz.func29,Tryz.ntmps29
 go_wp2
 go_ret;exact ⟨by rw [←H.out];rfl,rfl⟩
end
section
open Go.RowKit Go.Shelf
theorem tround_any (n:Int) (w:World) (hn:In64 n) :
  Calls Tryz.prog 49 #[.int .i64 n] w fun e w'=>e= .returned (.int .i64 (numV n))/\w=w':=by
 obtain ⟨h1,h2⟩:=hn
 have e:n.tmod 4294967296=if 0<=n then n%4294967296 else -((-n)%4294967296):=by
  split
  ·exact Int.tmod_eq_emod_of_nonneg (by omega)
  have h3:n.tmod 4294967296= -((-n).tmod 4294967296):=by rw [Int.neg_tmod,Int.neg_neg]
  rw [h3,Int.tmod_eq_emod_of_nonneg (by omega)]
 obtain ⟨m,hm⟩:∃ m,m=n.tmod 4294967296:=⟨_,rfl⟩;have hb: -4294967296<m/\m<4294967296:=by rw [hm,e];split <;> omega
 have HV:=hid (show numV n=if m<0 then m+4294967296 else m by rw [hm,e];unfold numV;(repeat' split) <;> omega);obtain ⟨hb1,hb2⟩:=hb;clear e;by_cases c1:m<0
 ·have hd:decide (n.tmod 4294967296<0)=true:=by rw [←hm];exact decide_eq_true c1
  have HE:=hid (show numV n=n.tmod 4294967296+4294967296 by rw [HV.out,if_pos c1,hm])
  go_enter Tryz.func49,Tryz.ntmps49
  go_wp2
  go_ret;exact ⟨by rw [HE.out];rfl,rfl⟩
 have hd:decide (n.tmod 4294967296<0)=false:=by rw [←hm];exact decide_eq_false c1
 have HE:=hid (show numV n=n.tmod 4294967296 by rw [HV.out,if_neg c1,hm])
 go_enter Tryz.func49,Tryz.ntmps49
 go_wp2
 go_ret;exact ⟨by rw [HE.out];rfl,rfl⟩
theorem tnumber_law (n:Int) (w:World) (hn:In64 n) :
  Calls Tryz.prog 19 #[.int .i64 n] w fun e w'=>e= .returned (.int .i64 (numV n))/\w=w':=by
 go_enter Tryz.func19,Tryz.ntmps19
 go_wp2_with fail;refine (tround_any n _ hn).mono ?_;rintro e w1 ⟨rfl,rfl⟩;go_wp2_with fail;go_ret;exact ⟨rfl,rfl⟩
end
section
set_option maxRecDepth 100000
open Go.RowKit Go.Shelf
def payTo (s:Int) (n i:Nat):List UInt8:=payL s i++List.replicate (n-i) 0
theorem payL_len (s:Int) (n:Nat):(payL s n).length=n:=by unfold payL;rw [List.length_map,List.length_range]
theorem payTo_length (s:Int) (n i:Nat) (h:i<=n):(payTo s n i).length=n:=by
 unfold payTo;rw [List.length_append,payL_len,List.length_replicate];omega
theorem payTo_set (s:Int) (n i:Nat) (h:i<n):(payTo s n i).set i (payB s i)=payTo s n (i+1):=by
 unfold payTo;rw [List.set_append_right _ _ (by rw [payL_len];omega),payL_len,Nat.sub_self,show n-i=(n-(i+1))+1 by omega,List.replicate_succ,List.set_cons_zero];show _=(List.range (i+1)).map (payB s)++_;rw [List.range_succ,List.map_append,List.append_assoc];rfl
theorem RingAt.setY {g:Nat} {rg:List UInt8} {w:World} (h:RingAt g rg w) (i:Nat) (c:UInt8):RingAt g (rg.set i c) (w.setCell ⟨g,i,none⟩ (.int .u8 (c.toNat:Int))):=by
 unfold RingAt;rw [heap_setCell_same _ _ _ _ _ _ h]
 simp [Lib.byteCells,List.map_set]
theorem payB_val (s:Int) (h0:s=0∨s=1) (i:Nat):((payB s i).toNat:Int)=97+((i:Int)*7+(i:Int)/13+s*5)%26:=by
 unfold payB;rw [UInt8.toNat_ofNat']
 rcases h0 with rfl | rfl <;> simp <;> omega
theorem tpay_any (s:Int) (n:Nat) (w:World) (hs:s=0∨s=1) (hn2:n<=1000) :
  Calls Tryz.prog 33 #[.int .i64 s,.int .i64 n] w fun e w'=>e= .returned (.string ⟨(payL s n).toArray⟩)/\Below w.heap.size w w':=by
 obtain ⟨i0,hi,hz0,hz1,hz2⟩:=info_parts byteInfo
 go_enter Tryz.func33,Tryz.ntmps33
 go_wp2_with (first | (at_make;refine wpList_make_full _ rfl _ _ _ rfl w.heap.size 5 i0 _ 1 Tryz.underlying112 hi hz0 hz1 _ _ _ _ n rfl rfl rfl rfl (by rw [hz2];omega) (by unfold maxLen;omega) (Nat.le_refl _) ?_))
 intro w1 hown hgr
 have hR:RingAt w.heap.size (payTo s n 0) w1:=by
  refine ring_of_own (base:=w.heap.size) (n:=n) (cap:=n) ?_ rfl
  have e:(madeCells #[Value.int .u8 0] n).toList=Lib.byteCells (payTo s n 0):=by
   apply List.ext_getElem
   ·simp [madeCells,Lib.byteCells,payTo,payL]
   intro i h1 h2
   simp [madeCells,Lib.byteCells,payTo,payL,Nat.mod_one]
  rw [←e];exact hown
 have hlt:=(World.ownsRow.lt hown w.heap.size rfl).2;have hb:Below w.heap.size w w1:=grown_below hgr (Nat.le_refl _) (fun k e=>by cases e);have HR:=hid hR;have HB:=hid hb;have HSD:=hid hs;have hs0:0<=s/\s<=1:=by omega
 clear hown hgr hR hb hs;go_wp2_with fail
 go_loopw [6] (fun u wr=>∃ i:Nat,u= .int .i64 i/\i<=n/\RingAt w.heap.size (payTo s n i) wr/\Below w.heap.size w wr) (fun u _=>n-(intOf u).toNat)
 case atStart=>exact ⟨0,rfl,Nat.zero_le _,HR.out,HB.out⟩
 case round =>
  obtain ⟨i,rfl,hin,hring,hbl⟩:=hrel;have HRG:=hid hring;have HBL:=hid hbl;clear hring hbl;by_cases hlt':i<n
  ·have hl:=payTo_length s n i hin;obtain ⟨c0,hcell⟩:∃ c0,wr.cell? ⟨w.heap.size,i,none⟩=some (.int .u8 c0):=⟨_,ring_cell HRG.out i (by omega)⟩;have hfr:wr.frozen? ⟨w.heap.size,i,none⟩=false:=frozen_of_row _ _ _ _ _ HRG.out;have HV:=hid (payB_val s HSD.out i);clear hl;go_wp2_with fail;refine ⟨⟨i+1,by simp,by omega,?_,HBL.out.setCell (Nat.le_refl _) _⟩,by simp [intOf];omega⟩;have e:=HV.out;rw [←e,←payTo_set s n i hlt'];exact HRG.out.setY i _
  have hc:=ring_conv HRG.out n n (payTo_length s n i hin);have he:i=n:=by omega
  subst he;go_wp2_with fail;go_ret;refine ⟨?_,HBL.out⟩;unfold payTo
  simp
end
end Go.Proofs.YtclkcmidhhfdmaaGreatDoor
