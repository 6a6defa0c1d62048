import Derived.Test.YtclkcmidhhfdmaaGreatDoorUb1
import Derived.Test.YtclkcmidhhfdmaaGreatDoorUb17
import Derived.Test.YtclkcmidhhfdmaaGreatDoorRows
import Derived.WalkKit
import Derived.WalkSpells
import Derived.WalkLawsBesides
namespace Go.Proofs.YtclkcmidhhfdmaaGreatDoor
open Lib (hid)
section
open Go.RowKit
theorem tO (w:World):(zeroValue 153).run Tryz.prog w= .ok (.agg (ce fun _=>0)) w:=by kernel_rfl
theorem wR (w:World):(zeroValue 204).run Tryz.prog w= .ok (.agg #[(0:Int),(0:Int),(0:Int)]) w:=by kernel_rfl
def gW:Array Value:=((List.range 16).flatMap fun i=>[Value.int .i64 (kI i),(kJ i:Int),(pm i:Int)]).toArray
theorem wS:∀i,i<16->∀w,(Instr.index 205 (.agg gW) (.int .i64 (i:Nat))).run Tryz.prog w= .ok (.agg #[(kI i:Int),(kJ i:Int),(pm i:Int)]) w
 | 0,_,_=>by kernel_rfl
 | 1,_,_=>by kernel_rfl
 | 2,_,_=>by kernel_rfl
 | 3,_,_=>by kernel_rfl
 | 4,_,_=>by kernel_rfl
 | 5,_,_=>by kernel_rfl
 | 6,_,_=>by kernel_rfl
 | 7,_,_=>by kernel_rfl
 | 8,_,_=>by kernel_rfl
 | 9,_,_=>by kernel_rfl
 | 10,_,_=>by kernel_rfl
 | 11,_,_=>by kernel_rfl
 | 12,_,_=>by kernel_rfl
 | 13,_,_=>by kernel_rfl
 | 14,_,_=>by kernel_rfl
 | 15,_,_=>by kernel_rfl
 | n+16,h,_=>by omega
def eU (w:World):Prop:=∃t fr,w.heap[1]? =some (.cells gW t fr)
set_option maxHeartbeats 400000 in
theorem qx (w:World) (hT:eU w) :
  Calls Tryz.prog 125 #[] w fun e w'=>e= .returned (.agg (ce (fD 16)))/\Below w.heap.size w w':=by
 have hz:=tO
 go_enter Tryz.func125,Tryz.ntmps125
 go_wp2
 go_loopw [2,3,6,7,8,9,10,11,12,13,14,15,16,17,18,19,20,21,22,23,24,25] (fun _ _ i _ _ _ _ _ _ _ _ _ _ _ _ _ _ _ _ _ _ _ wr=>∃k:Nat,k<=10/\i= .int .i64 k/\cI w (dm k 0) wr) (fun _ _ i _ _ _ _ _ _ _ _ _ _ _ _ _ _ _ _ _ _ _ _=>10-(intOf i).toNat)
 case atStart=>exact⟨0,by omega,rfl,cI.start w⟩
 case round =>
  obtain⟨k,hk,rfl,hR⟩:=hrel;by_cases hlt:k<10
  ·go_wp2
   obtain⟨wo,rfl⟩:∃wo:World,wo=wr:=⟨_,rfl⟩
   go_loopw [3,9,10,11,12,13,14,15,16] (fun _ i _ _ _ _ _ _ _ wr=>∃j:Nat,j<=10/\i= .int .i64 j/\cI w (dm k j) wr) (fun _ i _ _ _ _ _ _ _ _=>10-(intOf i).toNat)
   case atStart=>exact⟨0,by omega,rfl,hR⟩
   case round =>
    obtain⟨j,hj,rfl,hS⟩:=hrel;by_cases hjt:j<10
    ·have hc:=hS.cell (k*10+j) (by omega);have hf:=hS.frozen (k*10+j)
     go_wp2
     go_roundw
     case rel=>exact⟨j+1,by omega,by go_num,hS.step hjt⟩
     case measure=>simp[intOf];omega
    obtain rfl:j=10:=by omega
    by_cases hk0:k=0
    ·subst hk0
     go_wp2
     go_roundw
     case rel=>exact⟨1,by omega,by go_num,hS.row0⟩
     case measure=>simp[intOf]
    have a1:=hS.cell (k*10+8) (by omega);have a2:=hS.frozen (k*10+8);have a3:=hS.cell (k*10+9) (by omega);have a4:=hS.frozen (k*10+9)
    go_wp2
    go_roundw
    case rel=>exact⟨k+1,by omega,by go_num,hS.rowk (by omega)⟩
    case measure=>simp[intOf];omega
  obtain rfl:k=10:=by omega
  have hB:Below w.heap.size w wr:=hR.2.2.2;obtain⟨tt,fr,hg⟩:=hT
  have hg1:wr.heap[1]? =some (.cells gW tt fr):=by
   rw[hB.block _ (Array.getElem?_eq_some_iff.1 hg).1];exact hg
  clear hg;have HG:=hid hg1;clear hg1
  go_wp2_with (refine wpList_load_row rfl 205 _ rfl 1 rfl tt _ fr _ HG.o Tryz.underlying205 rfl (by kernel_rfl) ?_)
  have aF:cI w (fD 0) wr:=hR.congr fun _ _=>rfl;clear hR HG hB;have a0:=wR;obtain⟨wo,rfl⟩:∃wo:World,wo=wr:=⟨_,rfl⟩
  go_loopw [5,27,28,29,30,31,32,33,34,35,36,37,38] (fun _ i _ _ _ _ _ _ _ _ _ _ _ wr=>∃j:Nat,j<=16/\i= .int .i64 j/\cI w (fD j) wr) (fun _ i _ _ _ _ _ _ _ _ _ _ _ _=>16-(intOf i).toNat)
  case atStart=>exact⟨0,by omega,rfl,aF⟩
  case round =>
   clear aF;obtain⟨j,hj,rfl,hS⟩:=hrel;by_cases hjt:j<16
   ·have a5:=wS j hjt;have hA:=tM j hjt;have hB:=tN j hjt
    go_wp2
    have hc:=fun o=>(hS.alloc o).cell (kI j*10+kJ j) (by omega);have hf:=fun o=>(hS.alloc o).frozen (kI j*10+kJ j);have hsz:=hS.1
    go_region
    go_wp2
    go_roundw
    case rel=>exact⟨j+1,by omega,by go_num,(hS.alloc _).trip.drew⟩
    case measure=>simp[intOf];omega
   obtain rfl:j=16:=by omega
   obtain⟨s1,s2,s3,s4⟩:=hS;have H1:=hid s1;have H2:=hid s2;have H3:=hid s3;clear s1 s2 s3
   go_wp2_with (first | (refine wpList_load_row rfl 153 (.tmp 1) rfl (w.heap.size+1) rfl 153 _ (0,0) _ H3.o Tryz.underlying153 rfl (by kernel_rfl) ?_) | (refine wpList_store_row rfl 153 (.tmp 0) (.tmp 39) rfl w.heap.size _ rfl rfl 153 _ H2.o (by kernel_rfl) (by kernel_rfl) (by kernel_rfl) ?_))
   refine bodyPost_ret (v:=.agg (ce (fD 16))) (results_cell_row (p:=0) (ty:=153) rfl _ _ w.heap.size 153 _ (0,0) _ rfl (setRow_heap _ _ _ _ _ _ H2.o) Tryz.underlying153 rfl (by kernel_rfl)) rfl ⟨rfl,i9 s4 _ _ (Nat.le_refl _)⟩
end
section
open Go.RowKit
def tP (s e:Int):Int:=if 0<=s/\s<10/\0<=e/\e<10 then fD 16 (s.toNat*10+e.toNat)else -1
def vD (s e:Int):Int:=if tP s e= -1 then 0 else tP s e
def tQ (s e:Int):Int:=if tP s e= -1 then 170 else 0
theorem wT (a b:Nat)(ha:a<10)(hb:b<10):tP a b=fD 16 (a*10+b):=by
 unfold tP;rw[if_pos ⟨by omega,by omega,by omega,by omega⟩];simp
theorem pn (s e:Int)(h:s<0\/10<=s\/e<0\/10<=e):tP s e= -1:=by
 unfold tP;rw[if_neg (by omega)]
theorem xP {a b c d:Int}(h:a=b)(h':c=d):Ending.returned (.tuple #[a,c])= .returned (.tuple #[b,d]):=by rw[h,h']
set_option maxHeartbeats 400000 in
theorem tR (s e:Int) (w:World) (h:s<0\/10<=s\/e<0\/10<=e) :
  Calls Tryz.prog 79 #[s,e] w fun r w'=>r= .returned (.tuple #[(vD s e),(tQ s e)])/\Below w.heap.size w w':=by
 have h0:vD s e=0:=by unfold vD;rw[if_pos (pn s e h)]
 have h1:tQ s e=170:=by unfold tQ;rw[if_pos (pn s e h)]
 rw[h0,h1];clear h0 h1;by_cases c1:s<0
 ·clear h
  go_enter Tryz.func79,Tryz.ntmps79
  go_wp2
  go_ret2
  exact⟨rfl,Below.refl _ _⟩
 by_cases c2:10<=s
 ·clear h
  go_enter Tryz.func79,Tryz.ntmps79
  go_wp2
  go_ret2
  exact⟨rfl,Below.refl _ _⟩
 by_cases c3:e<0
 ·clear h
  go_enter Tryz.func79,Tryz.ntmps79
  go_wp2
  go_ret2
  exact⟨rfl,Below.refl _ _⟩
 have c4:10<=e:=by omega
 clear h
 go_enter Tryz.func79,Tryz.ntmps79
 go_wp2
 go_ret2
 exact⟨rfl,Below.refl _ _⟩
set_option maxHeartbeats 400000 in
theorem vE (a b:Nat) (ha:a<10) (hb:b<10) (w:World) (hT:eU w) :
  Calls Tryz.prog 79 #[.int .i64 a,.int .i64 b] w fun r w'=>r= .returned (.tuple #[(vD a b),(tQ a b)])/\Below w.heap.size w w':=by
 have hz:=tO;have hv:=wT a b ha hb;have HV:=hid hv;clear hv
 go_enter Tryz.func79,Tryz.ntmps79
 go_wp2_with (first | (go_at_call 125;refine(qx _ hT).mono ?_;rintro r w1⟨rfl,hb1⟩) | (refine wpList_store_row rfl 153 (.tmp 6) (.tmp 22) rfl w1.heap.size _ rfl rfl 153 _ (heap_alloc_new _ _) (by kernel_rfl) (by kernel_rfl) (by kernel_rfl) ?_;have hc:((w1.alloc (.cells (ce fun _=>0) 153)).setRow w1.heap.size (ce (fD 16))).cell? ⟨w1.heap.size,a*10+b,none⟩=some (fD 16 (a*10+b):Y):=(cell_setRow_same _ _ _ _ _ _ _ (heap_alloc_new _ _)).trans (lX _ _ (by omega));have hq:Below w.heap.size w ((w1.alloc (.cells (ce fun _=>0) 153)).setRow w1.heap.size (ce (fD 16))):=i9 (hb1.alloc hb1.size _) _ _ hb1.size;generalize (w1.alloc (.cells (ce fun _=>0) 153)).setRow w1.heap.size (ce (fD 16))=w2 at hc hq|-;rw[<-HV.o]at hc))
 all_goals go_ret2
 ·rename_i hx;have hx':tP a b= -1:=by simpa using hx
  exact⟨xP (by unfold vD;rw[if_pos hx']) (by unfold tQ;rw[if_pos hx']),hq⟩
 rename_i hx;have hx':¬tP a b= -1:=by simpa using hx
 exact⟨xP (by unfold vD;rw[if_neg hx']) (by unfold tQ;rw[if_neg hx']),hq⟩
theorem nY (s e:Int)(w:World)(hT:eU w) :
  Calls Tryz.prog 79 #[s,e] w fun r w'=>r= .returned (.tuple #[(vD s e),(tQ s e)])/\Below w.heap.size w w':=by
 by_cases h:s<0\/10<=s\/e<0\/10<=e
 ·exact tR s e w h
 obtain⟨a,rfl⟩:=Int.eq_ofNat_of_zero_le (show 0<=s by omega);obtain⟨b,rfl⟩:=Int.eq_ofNat_of_zero_le (show 0<=e by omega);exact vE a b (by omega) (by omega) w hT
theorem eU.below {w w':World}(h:eU w)(hb:Below w.heap.size w w'):eU w':=by
 obtain⟨t,fr,ht⟩:=h;exact⟨t,fr,by rw[hb.block _ (Array.getElem?_eq_some_iff.1 ht).1];exact ht⟩
end
section
open Go.RowKit
def ia (s:Int):Bool:=decide (s=3\/s=4\/s=5)
def eH (s:Int):Bool:=decide (3<=s/\s<=9)
theorem tS {a b:Bool}(h:a=b):Ending.returned a= .returned b:=by rw[h]
set_option maxHeartbeats 400000 in
theorem bA (s:Int) (w:World):Calls Tryz.prog 124 #[s] w fun r w'=>r= .returned (ia s)/\w=w':=by
 by_cases c1:s=3
 ·subst c1
  go_enter Tryz.func124,Tryz.ntmps124
  go_wp2
  go_ret;exact⟨rfl,rfl⟩
 by_cases c2:s=4
 ·subst c2
  go_enter Tryz.func124,Tryz.ntmps124
  go_wp2
  go_ret;exact⟨rfl,rfl⟩
 have c1':(s==3)=false:=by simpa using c1
 have a6:(s==4)=false:=by simpa using c2
 have H:=hid (show(s==5)=ia s by unfold ia;rw[Bool.eq_iff_iff];simp[c1,c2]);clear c1 c2
 go_enter Tryz.func124,Tryz.ntmps124
 go_wp2
 go_ret;exact⟨tS H.out,rfl⟩
set_option maxHeartbeats 400000 in
theorem bW (s:Int) (w:World):Calls Tryz.prog 75 #[s] w fun r w'=>r= .returned (eH s)/\w=w':=by
 by_cases c1:3<=s
 ·have H:=hid (show decide (s<=9)=eH s by unfold eH;simp[c1])
  go_enter Tryz.func75,Tryz.ntmps75
  go_wp2
  go_ret;exact⟨tS H.out,rfl⟩
 have H:=hid (show false=eH s by unfold eH;simp[c1])
 go_enter Tryz.func75,Tryz.ntmps75
 go_wp2
 go_ret;exact⟨tS H.out,rfl⟩
end
end Go.Proofs.YtclkcmidhhfdmaaGreatDoor
