import Derived.Test.YtclkcmidhhfdmaaGreatDoorUb1
import Derived.Test.YtclkcmidhhfdmaaGreatDoorUb17
import Derived.Test.YtclkcmidhhfdmaaGreatDoorRows
import Derived.WalkKit
import Derived.WalkSpells
import Derived.WalkLawsBesides
namespace Go.Proofs.YtclkcmidhhfdmaaGreatDoor
open Lib (hid)
section
open Go.RowKit
theorem zero36 (w:World):(zeroValue 153).run Tryz.prog w= .ok (.agg (tabOf fun _=>0)) w:=by kernel_rfl
theorem zero41 (w:World):(zeroValue 204).run Tryz.prog w= .ok (.agg #[.int .i64 0,.int .i64 0,.int .i64 0]) w:=by kernel_rfl
def tripCells:Array Value:=((List.range 16).flatMap fun i=>[Value.int .i64 (tripA i),.int .i64 (tripB i),.int .i64 (tripC i)]).toArray
theorem tripIx:∀i,i<16->∀w,(Instr.index 205 (.agg tripCells) (.int .i64 (i:Nat))).run Tryz.prog w= .ok (.agg #[.int .i64 (tripA i),.int .i64 (tripB i),.int .i64 (tripC i)]) w
 | 0,_,_=>by kernel_rfl
 | 1,_,_=>by kernel_rfl
 | 2,_,_=>by kernel_rfl
 | 3,_,_=>by kernel_rfl
 | 4,_,_=>by kernel_rfl
 | 5,_,_=>by kernel_rfl
 | 6,_,_=>by kernel_rfl
 | 7,_,_=>by kernel_rfl
 | 8,_,_=>by kernel_rfl
 | 9,_,_=>by kernel_rfl
 | 10,_,_=>by kernel_rfl
 | 11,_,_=>by kernel_rfl
 | 12,_,_=>by kernel_rfl
 | 13,_,_=>by kernel_rfl
 | 14,_,_=>by kernel_rfl
 | 15,_,_=>by kernel_rfl
 | n+16,h,_=>by omega
def Triples (w:World):Prop:=∃t fr,w.heap[1]? =some (.cells tripCells t fr)
set_option maxHeartbeats 400000 in
theorem trans_any (w:World) (hT:Triples w) :
  Calls Tryz.prog 125 #[] w fun e w'=>e= .returned (.agg (tabOf (tripV 16)))/\Below w.heap.size w w':=by
 have hz:=zero36
 go_enter Tryz.func125,Tryz.ntmps125
 go_wp2
 go_loopw [2,3,6,7,8,9,10,11,12,13,14,15,16,17,18,19,20,21,22,23,24,25] (fun _ _ i _ _ _ _ _ _ _ _ _ _ _ _ _ _ _ _ _ _ _ wr=>∃k:Nat,k<=10/\i= .int .i64 k/\RelT w (fillV k 0) wr) (fun _ _ i _ _ _ _ _ _ _ _ _ _ _ _ _ _ _ _ _ _ _ _=>10-(intOf i).toNat)
 case atStart=>exact⟨0,by omega,rfl,RelT.start w⟩
 case round =>
  obtain⟨k,hk,rfl,hR⟩:=hrel;by_cases hlt:k<10
  ·go_wp2
   obtain⟨wo,rfl⟩:∃wo:World,wo=wr:=⟨_,rfl⟩
   go_loopw [3,9,10,11,12,13,14,15,16] (fun _ i _ _ _ _ _ _ _ wr=>∃j:Nat,j<=10/\i= .int .i64 j/\RelT w (fillV k j) wr) (fun _ i _ _ _ _ _ _ _ _=>10-(intOf i).toNat)
   case atStart=>exact⟨0,by omega,rfl,hR⟩
   case round =>
    obtain⟨j,hj,rfl,hS⟩:=hrel;by_cases hjt:j<10
    ·have hc:=hS.cell (k*10+j) (by omega);have hf:=hS.frozen (k*10+j)
     go_wp2
     go_roundw
     case rel=>exact⟨j+1,by omega,by go_num,hS.step hjt⟩
     case measure=>simp[intOf];omega
    obtain rfl:j=10:=by omega
    by_cases hk0:k=0
    ·subst hk0
     go_wp2
     go_roundw
     case rel=>exact⟨1,by omega,by go_num,hS.row0⟩
     case measure=>simp[intOf]
    have hc8:=hS.cell (k*10+8) (by omega);have hf8:=hS.frozen (k*10+8);have hc9:=hS.cell (k*10+9) (by omega);have hf9:=hS.frozen (k*10+9)
    go_wp2
    go_roundw
    case rel=>exact⟨k+1,by omega,by go_num,hS.rowk (by omega)⟩
    case measure=>simp[intOf];omega
  obtain rfl:k=10:=by omega
  have hB:Below w.heap.size w wr:=hR.2.2.2;obtain⟨tt,fr,hg⟩:=hT
  have hg1:wr.heap[1]? =some (.cells tripCells tt fr):=by
   rw[hB.block _ (Array.getElem?_eq_some_iff.1 hg).1];exact hg
  clear hg;have HG:=hid hg1;clear hg1
  go_wp2_with (refine wpList_load_row rfl 205 _ rfl 1 rfl tt _ fr _ HG.o Tryz.underlying205 rfl (by kernel_rfl) ?_)
  have hR3:RelT w (tripV 0) wr:=hR.congr fun _ _=>rfl;clear hR HG hB;have hz41:=zero41;obtain⟨wo,rfl⟩:∃wo:World,wo=wr:=⟨_,rfl⟩
  go_loopw [5,27,28,29,30,31,32,33,34,35,36,37,38] (fun _ i _ _ _ _ _ _ _ _ _ _ _ wr=>∃j:Nat,j<=16/\i= .int .i64 j/\RelT w (tripV j) wr) (fun _ i _ _ _ _ _ _ _ _ _ _ _ _=>16-(intOf i).toNat)
  case atStart=>exact⟨0,by omega,rfl,hR3⟩
  case round =>
   clear hR3;obtain⟨j,hj,rfl,hS⟩:=hrel;by_cases hjt:j<16
   ·have hix:=tripIx j hjt;have hA:=tripA_lt j hjt;have hB:=tripB_lt j hjt
    go_wp2
    have hc:=fun o=>(hS.alloc o).cell (tripA j*10+tripB j) (by omega);have hf:=fun o=>(hS.alloc o).frozen (tripA j*10+tripB j);have hsz:=hS.1
    go_region
    go_wp2
    go_roundw
    case rel=>exact⟨j+1,by omega,by go_num,(hS.alloc _).trip.drew⟩
    case measure=>simp[intOf];omega
   obtain rfl:j=16:=by omega
   obtain⟨s1,s2,s3,s4⟩:=hS;have H1:=hid s1;have H2:=hid s2;have H3:=hid s3;clear s1 s2 s3
   go_wp2_with (first | (refine wpList_load_row rfl 153 (.tmp 1) rfl (w.heap.size+1) rfl 153 _ (0,0) _ H3.o Tryz.underlying153 rfl (by kernel_rfl) ?_) | (refine wpList_store_row rfl 153 (.tmp 0) (.tmp 39) rfl w.heap.size _ rfl rfl 153 _ H2.o (by kernel_rfl) (by kernel_rfl) (by kernel_rfl) ?_))
   refine bodyPost_ret (v:=.agg (tabOf (tripV 16))) (results_cell_row (p:=0) (ty:=153) rfl _ _ w.heap.size 153 _ (0,0) _ rfl (setRow_heap _ _ _ _ _ _ H2.o) Tryz.underlying153 rfl (by kernel_rfl)) rfl ⟨rfl,below_setRow s4 _ _ (Nat.le_refl _)⟩
end
section
open Go.RowKit
def stV (s e:Int):Int:=if 0<=s/\s<10/\0<=e/\e<10 then tripV 16 (s.toNat*10+e.toNat)else -1
def stN (s e:Int):Int:=if stV s e= -1 then 0 else stV s e
def stE (s e:Int):Int:=if stV s e= -1 then 170 else 0
theorem stV_in (a b:Nat)(ha:a<10)(hb:b<10):stV a b=tripV 16 (a*10+b):=by
 unfold stV;rw[if_pos ⟨by omega,by omega,by omega,by omega⟩];simp
theorem stV_out (s e:Int)(h:s<0\/10<=s\/e<0\/10<=e):stV s e= -1:=by
 unfold stV;rw[if_neg (by omega)]
theorem ret2 {a b c d:Int}(h:a=b)(h':c=d):Ending.returned (.tuple #[.int .i64 a,.int .i64 c])= .returned (.tuple #[.int .i64 b,.int .i64 d]):=by rw[h,h']
set_option maxHeartbeats 400000 in
theorem step_out (s e:Int) (w:World) (h:s<0\/10<=s\/e<0\/10<=e) :
  Calls Tryz.prog 79 #[.int .i64 s,.int .i64 e] w fun r w'=>r= .returned (.tuple #[.int .i64 (stN s e),.int .i64 (stE s e)])/\Below w.heap.size w w':=by
 have h0:stN s e=0:=by unfold stN;rw[if_pos (stV_out s e h)]
 have h1:stE s e=170:=by unfold stE;rw[if_pos (stV_out s e h)]
 rw[h0,h1];clear h0 h1;by_cases c1:s<0
 ·clear h
  go_enter Tryz.func79,Tryz.ntmps79
  go_wp2
  go_ret2
  exact⟨rfl,Below.refl _ _⟩
 by_cases c2:10<=s
 ·clear h
  go_enter Tryz.func79,Tryz.ntmps79
  go_wp2
  go_ret2
  exact⟨rfl,Below.refl _ _⟩
 by_cases c3:e<0
 ·clear h
  go_enter Tryz.func79,Tryz.ntmps79
  go_wp2
  go_ret2
  exact⟨rfl,Below.refl _ _⟩
 have c4:10<=e:=by omega
 clear h
 go_enter Tryz.func79,Tryz.ntmps79
 go_wp2
 go_ret2
 exact⟨rfl,Below.refl _ _⟩
set_option maxHeartbeats 400000 in
theorem step_in (a b:Nat) (ha:a<10) (hb:b<10) (w:World) (hT:Triples w) :
  Calls Tryz.prog 79 #[.int .i64 a,.int .i64 b] w fun r w'=>r= .returned (.tuple #[.int .i64 (stN a b),.int .i64 (stE a b)])/\Below w.heap.size w w':=by
 have hz:=zero36;have hv:=stV_in a b ha hb;have HV:=hid hv;clear hv
 go_enter Tryz.func79,Tryz.ntmps79
 go_wp2_with (first | (go_at_call 125;refine(trans_any _ hT).mono ?_;rintro r w1⟨rfl,hb1⟩) | (refine wpList_store_row rfl 153 (.tmp 6) (.tmp 22) rfl w1.heap.size _ rfl rfl 153 _ (heap_alloc_new _ _) (by kernel_rfl) (by kernel_rfl) (by kernel_rfl) ?_;have hc:((w1.alloc (.cells (tabOf fun _=>0) 153)).setRow w1.heap.size (tabOf (tripV 16))).cell? ⟨w1.heap.size,a*10+b,none⟩=some (.int .i64 (tripV 16 (a*10+b))):=(cell_setRow_same _ _ _ _ _ _ _ (heap_alloc_new _ _)).trans (tabOf_get _ _ (by omega));have hq:Below w.heap.size w ((w1.alloc (.cells (tabOf fun _=>0) 153)).setRow w1.heap.size (tabOf (tripV 16))):=below_setRow (hb1.alloc hb1.size _) _ _ hb1.size;generalize (w1.alloc (.cells (tabOf fun _=>0) 153)).setRow w1.heap.size (tabOf (tripV 16))=w2 at hc hq|-;rw[<-HV.o]at hc))
 all_goals go_ret2
 ·rename_i hx;have hx':stV a b= -1:=by simpa using hx
  exact⟨ret2 (by unfold stN;rw[if_pos hx']) (by unfold stE;rw[if_pos hx']),hq⟩
 rename_i hx;have hx':¬stV a b= -1:=by simpa using hx
 exact⟨ret2 (by unfold stN;rw[if_neg hx']) (by unfold stE;rw[if_neg hx']),hq⟩
theorem step_any (s e:Int)(w:World)(hT:Triples w) :
  Calls Tryz.prog 79 #[.int .i64 s,.int .i64 e] w fun r w'=>r= .returned (.tuple #[.int .i64 (stN s e),.int .i64 (stE s e)])/\Below w.heap.size w w':=by
 by_cases h:s<0\/10<=s\/e<0\/10<=e
 ·exact step_out s e w h
 obtain⟨a,rfl⟩:=Int.eq_ofNat_of_zero_le (show 0<=s by omega);obtain⟨b,rfl⟩:=Int.eq_ofNat_of_zero_le (show 0<=e by omega);exact step_in a b (by omega) (by omega) w hT
theorem Triples.below {w w':World}(h:Triples w)(hb:Below w.heap.size w w'):Triples w':=by
 obtain⟨t,fr,ht⟩:=h;exact⟨t,fr,by rw[hb.block _ (Array.getElem?_eq_some_iff.1 ht).1];exact ht⟩
end
section
open Go.RowKit
def canR (s:Int):Bool:=decide (s=3\/s=4\/s=5)
def synced (s:Int):Bool:=decide (3<=s/\s<=9)
theorem ret1b {a b:Bool}(h:a=b):Ending.returned (.bool a)= .returned (.bool b):=by rw[h]
set_option maxHeartbeats 400000 in
theorem canReceive_any (s:Int) (w:World):Calls Tryz.prog 124 #[.int .i64 s] w fun r w'=>r= .returned (.bool (canR s))/\w=w':=by
 by_cases c1:s=3
 ·subst c1
  go_enter Tryz.func124,Tryz.ntmps124
  go_wp2
  go_ret;exact⟨rfl,rfl⟩
 by_cases c2:s=4
 ·subst c2
  go_enter Tryz.func124,Tryz.ntmps124
  go_wp2
  go_ret;exact⟨rfl,rfl⟩
 have c1':(s==3)=false:=by simpa using c1
 have c2':(s==4)=false:=by simpa using c2
 have H:=hid (show(s==5)=canR s by unfold canR;rw[Bool.eq_iff_iff];simp[c1,c2]);clear c1 c2
 go_enter Tryz.func124,Tryz.ntmps124
 go_wp2
 go_ret;exact⟨ret1b H.out,rfl⟩
set_option maxHeartbeats 400000 in
theorem synchronized_any (s:Int) (w:World):Calls Tryz.prog 75 #[.int .i64 s] w fun r w'=>r= .returned (.bool (synced s))/\w=w':=by
 by_cases c1:3<=s
 ·have H:=hid (show decide (s<=9)=synced s by unfold synced;simp[c1])
  go_enter Tryz.func75,Tryz.ntmps75
  go_wp2
  go_ret;exact⟨ret1b H.out,rfl⟩
 have H:=hid (show false=synced s by unfold synced;simp[c1])
 go_enter Tryz.func75,Tryz.ntmps75
 go_wp2
 go_ret;exact⟨ret1b H.out,rfl⟩
end
end Go.Proofs.YtclkcmidhhfdmaaGreatDoor
