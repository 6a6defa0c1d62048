import Derived.Test.YtclkcmidhhfdmaaGreatDoorUb2
import Derived.Test.YtclkcmidhhfdmaaGreatDoorUb30
import Derived.Test.YtclkcmidhhfdmaaGreatDoorSgPutU
import Derived.Test.YtclkcmidhhfdmaaGreatDoorWireCkU
import Derived.Laws.Rows
namespace Go.Proofs.YtclkcmidhhfdmaaGreatDoor
open Lib (hid)
section
set_option maxRecDepth 100000
open Go.RowKit
set_option maxHeartbeats 2000000 in
theorem zF (g:Sg) (a:Option Addr) (cap:Nat) (S:ByteArray) (w:World) :
  Calls Tryz.prog 176 #[.agg #[g.fp,g.tp,g.sq,g.ak,g.syn,g.fin,g.rst,g.has,g.win,g.mss,g.sacks,.slice a g.bl.length cap,.string S]] w fun e w'=>e= .returned (.agg #[g.syn,g.fin,g.rst,g.has,g.sacks])/\Below w.heap.size w w':=by
 obtain⟨fp,tp,sq,ak,syn,fin,rst,has,win,mss,sacks,bl,s⟩:=g;dsimp only
 go_enter Tryz.func176,Tryz.ntmps176
 go_wp2_with fail;have hbl:=(((Below.refl w.heap.size w).alloc (Nat.le_refl _) (.cells #[fp,tp,sq,ak,syn,fin,rst,has,win,mss,sacks,.slice a bl.length cap,.string S] 43)).alloc (by simp) (.cells #[syn,fin,rst,has,sacks] 212));refine bodyPost_ret (v:=.agg #[syn,fin,rst,has,sacks]) (by simp[results,Tryz.results176,go_sem]) rfl ⟨rfl,hbl⟩
def yx (g:Sg):Nat->Bool
 | 0=>g.syn | 1=>g.fin | 2=>g.rst | 3=>g.has | _=>g.sacks
def ye (g:Sg):Nat->Nat
 | 0=>0
 | k+1=>ye g k+ww (yx g k) (2 ^ k)
theorem zG (g:Sg):ye g 5=g.flag:=by
 unfold Sg.flag
 simp[ye,yx]
theorem zk (g:Sg)(k:Nat)(h:k<=5):ye g k<=31:=by
 have:∀k,k<=5->ye g k<=2 ^ k-1:=by
  intro k hk
  induction k with
  | zero=>simp[ye]
  | succ k ih =>
   have:=ih (by omega)
   have h2:ww (yx g k) (2 ^ k)<=2 ^ k:=by
    unfold ww;split
    ·exact Nat.le_refl _
    exact Nat.zero_le _
   show ye g k+ww (yx g k) (2 ^ k)<=_;have h3:1<=2 ^ k:=Nat.one_le_two_pow;rw[Nat.pow_succ];omega
 have h5:=this k h;have:2 ^ k<=2 ^ 5:=Nat.pow_le_pow_right (by omega) h;omega
set_option maxHeartbeats 2000000 in
theorem ym (g:Sg) (a:Option Addr) (cap:Nat) (S:ByteArray) (w:World) :
  Calls Tryz.prog 131 #[.agg #[g.fp,g.tp,g.sq,g.ak,g.syn,g.fin,g.rst,g.has,g.win,g.mss,g.sacks,.slice a g.bl.length cap,.string S]] w fun e w'=>e= .returned (.int .i64 (g.flag:Nat))/\Below w.heap.size w w':=by
 have HF:=hid (fun W=>zF g a cap S W);have HL:=hid (zk g);have HT:=hid (fun k=>show ye g (k+1)=ye g k+ww (yx g k) (2 ^ k)from rfl);have H5:=hid (zG g);have H0:=hid (show ye g 0=0 from rfl)
 have HA:=hid (fun k=>show yx g k=(match k with | 0=>g.syn | 1=>g.fin | 2=>g.rst | 3=>g.has | _=>g.sacks) by cases k with
  | zero=>rfl
  | succ k=>cases k with
   | zero=>rfl
   | succ k=>cases k with
    | zero=>rfl
    | succ k=>cases k with
     | zero=>rfl
     | succ k=>rfl)
 generalize ye g=ft at HL HT H5 H0;generalize g.flag=fg at H5|-;generalize yx g=fa at HT HA;obtain⟨fp,tp,sq,ak,syn,fin,rst,has,win,mss,sacks,bl,s⟩:=g;dsimp only at HF HA|-;have hB:=((Below.refl w.heap.size w).alloc (Nat.le_refl _) (.cells #[fp,tp,sq,ak,syn,fin,rst,has,win,mss,sacks,.slice a bl.length cap,.string S] 43)).alloc (by simp) (.cells #[(1:Int),(2:Int),(4:Int),(8:Int),(16:Int)] 211);have HB:=hid hB;clear hB
 go_enter Tryz.func131,Tryz.ntmps131
 go_wp2_with fail;refine(HF.o _).mono ?_;rintro e w1⟨rfl,hb1⟩;have a4:∀i (v:Value),(#[(1:Int),(2:Int),(4:Int),(8:Int),(16:Int)]:Array Value)[i]? =some v->∀W,Below w.heap.size w W->W.heap[w.heap.size+1]? =some (.cells #[(1:Int),(2:Int),(4:Int),(8:Int),(16:Int)] 211 (0,0))->W.cell? ⟨w.heap.size+1,i,none⟩=some v:=fun i v hv W _ hW=>by rw[cell_of_row _ _ _ _ _ _ hW];exact hv
 have hrow:w1.heap[w.heap.size+1]? =some (.cells #[(1:Int),(2:Int),(4:Int),(8:Int),(16:Int)] 211 (0,0)):=by
  rw[hb1.block _ (by simp),show w.heap.size+1=(w.alloc (.cells #[fp,tp,sq,ak,syn,fin,rst,has,win,mss,sacks,.slice a bl.length cap,.string S] 43)).heap.size by simp];exact heap_alloc_new _ _
 have al:=HB.trans (hb1.mono HB.size);have c0:=a4 0 _ rfl _ al hrow;have c1:=a4 1 _ rfl _ al hrow;have c2:=a4 2 _ rfl _ al hrow;have c3:=a4 3 _ rfl _ al hrow;have c4:=a4 4 _ rfl _ al hrow;have bo:=hid al;clear al hrow a4 hb1 HB HF;go_wp2_with fail
 go_loop [4,10] (fun sv iv=>∃k:Nat,k<=5/\iv= .int .i64 k/\sv= .int .i64 (ft k:Nat)) (fun _ iv=>5-(intOf iv).toNat)
 case atStart=>exact⟨0,by omega,rfl,by rw[H0.o];rfl⟩
 case round =>
  obtain⟨k,hk,rfl,rfl⟩:=hrel;by_cases hlt:k<5
  ·have hb0:=HL.o k hk;have HN:=hid (HT.o k);have HK:=hid (HA.o k);generalize ft k=fk at HN hb0|-;have hb1:(fk:Int)<=31:=by omega
   rcases(show k=0\/k=1\/k=2\/k=3\/k=4 by omega)with rfl | rfl | rfl | rfl | rfl
   ·have ix:∀W,(Instr.index 212 (.agg #[syn,fin,rst,has,sacks]) (0:Int)).run Tryz.prog W= .ok syn W:=fun _=>by kernel_rfl
    cases syn with
    | true =>
     go_wp2_with fail;exact⟨⟨1,by omega,by simp,by rw[HN.o,HK.o];simp[ww]⟩,by simp[intOf]⟩
    | false =>
     go_wp2_with fail;exact⟨⟨1,by omega,by simp,by rw[HN.o,HK.o];simp[ww]⟩,by simp[intOf]⟩
   ·have ix:∀W,(Instr.index 212 (.agg #[syn,fin,rst,has,sacks]) (1:Int)).run Tryz.prog W= .ok fin W:=fun _=>by kernel_rfl
    cases fin with
    | true =>
     go_wp2_with fail;exact⟨⟨2,by omega,by simp,by rw[HN.o,HK.o];simp[ww]⟩,by simp[intOf]⟩
    | false =>
     go_wp2_with fail;exact⟨⟨2,by omega,by simp,by rw[HN.o,HK.o];simp[ww]⟩,by simp[intOf]⟩
   ·have ix:∀W,(Instr.index 212 (.agg #[syn,fin,rst,has,sacks]) (2:Int)).run Tryz.prog W= .ok rst W:=fun _=>by kernel_rfl
    cases rst with
    | true =>
     go_wp2_with fail;exact⟨⟨3,by omega,by simp,by rw[HN.o,HK.o];simp[ww]⟩,by simp[intOf]⟩
    | false =>
     go_wp2_with fail;exact⟨⟨3,by omega,by simp,by rw[HN.o,HK.o];simp[ww]⟩,by simp[intOf]⟩
   ·have ix:∀W,(Instr.index 212 (.agg #[syn,fin,rst,has,sacks]) (3:Int)).run Tryz.prog W= .ok has W:=fun _=>by kernel_rfl
    cases has with
    | true =>
     go_wp2_with fail;exact⟨⟨4,by omega,by simp,by rw[HN.o,HK.o];simp[ww]⟩,by simp[intOf]⟩
    | false =>
     go_wp2_with fail;exact⟨⟨4,by omega,by simp,by rw[HN.o,HK.o];simp[ww]⟩,by simp[intOf]⟩
   have ix:∀W,(Instr.index 212 (.agg #[syn,fin,rst,has,sacks]) (4:Int)).run Tryz.prog W= .ok sacks W:=fun _=>by kernel_rfl
   cases sacks with
   | true =>
    go_wp2_with fail;exact⟨⟨5,by omega,by simp,by rw[HN.o,HK.o];simp[ww]⟩,by simp[intOf]⟩
   | false =>
    go_wp2_with fail;exact⟨⟨5,by omega,by simp,by rw[HN.o,HK.o];simp[ww]⟩,by simp[intOf]⟩
  obtain rfl:k=5:=by omega
  rw[H5.o];go_wp2;go_ret;exact⟨rfl,bo.o⟩
end
section
open Go.RowKit
def yX (b:Nat)(x:Int):Prop:=0<=x/\x.toNat<256 ^ b/\x<=4294967295
theorem zo {x:Int}(h1:0<=x)(h2:x<=255):yX 1 x:=⟨h1,by show x.toNat<256;omega,by omega⟩
theorem yf {x:Int}(h1:0<=x)(h2:x<=65535):yX 2 x:=⟨h1,by show x.toNat<65536;omega,by omega⟩
theorem yj {x:Int}(h1:0<=x)(h2:x<=4294967295):yX 4 x:=⟨h1,by show x.toNat<4294967296;omega,h2⟩
theorem yR (b:Nat)(hb1:1<=b)(hb4:b<=4)(x y:Int)(hx:yX b x)(hy:yX b y)(W:World)(t:TypeId)(C:Nat)(hC:C=W.heap.size) :
  Calls Tryz.prog 90 #[.int .i64 b,.slice (some ⟨C,0,none⟩) 2 2] (W.alloc (.cells #[x,y] t)) fun e w'=>e= .returned (.string ⟨(be b x.toNat++be b y.toNat).toArray⟩)/\Below W.heap.size W w':=by
 subst hC;obtain⟨x1,x2,x3⟩:=hx;obtain⟨y1,y2,y3⟩:=hy
 have h:=yd b W.heap.size [x.toNat,y.toNat] 2 (W.alloc (.cells #[x,y] t)) hb1 hb4 (by show 2<=8;omega) (by
  intro n hn
  rcases List.mem_cons.1 hn with rfl | hn
  ·exact⟨x2,by omega⟩
  ·rcases List.mem_cons.1 hn with rfl | hn
   ·exact⟨y2,by omega⟩
   ·cases hn) ⟨by simp,fun i hi=>by
  rw[cell_of_row _ _ _ _ _ _ (heap_alloc_new _ _)];have hi2:i<2:=hi
  rcases(show i=0\/i=1 by omega)with rfl | rfl
  ·show some (Value.int .i64 x)=some (Value.int .i64 ((x.toNat:Nat):Int));rw[Int.toNat_of_nonneg x1]
  ·show some (Value.int .i64 y)=some (Value.int .i64 ((y.toNat:Nat):Int));rw[Int.toNat_of_nonneg y1]⟩
 refine Calls.mono (show Calls Tryz.prog 90 #[.int .i64 b,.slice (some ⟨W.heap.size,0,none⟩) 2 2] _ _ from h) ?_;rintro e w' ⟨he,hb⟩;refine⟨by rw[he];show _=Ending.returned (.string ⟨(be b x.toNat++be b y.toNat).toArray⟩);unfold lu lu lu;rw[List.append_nil],(ap W _).trans (hb.mono (by simp))⟩
theorem zl (b:Nat)(hb1:1<=b)(hb4:b<=4)(x y z:Int)(hx:yX b x)(hy:yX b y)(hz:yX b z)(W:World)(t:TypeId)(C:Nat)(hC:C=W.heap.size) :
  Calls Tryz.prog 90 #[.int .i64 b,.slice (some ⟨C,0,none⟩) 3 3] (W.alloc (.cells #[x,y,z] t)) fun e w'=>e= .returned (.string ⟨(be b x.toNat++(be b y.toNat++be b z.toNat)).toArray⟩)/\Below W.heap.size W w':=by
 subst hC;obtain⟨x1,x2,x3⟩:=hx;obtain⟨y1,y2,y3⟩:=hy;obtain⟨z1,z2,z3⟩:=hz
 have h:=yd b W.heap.size [x.toNat,y.toNat,z.toNat] 3 (W.alloc (.cells #[x,y,z] t)) hb1 hb4 (by show 3<=8;omega) (by
  intro n hn
  rcases List.mem_cons.1 hn with rfl | hn
  ·exact⟨x2,by omega⟩
  ·rcases List.mem_cons.1 hn with rfl | hn
   ·exact⟨y2,by omega⟩
   ·rcases List.mem_cons.1 hn with rfl | hn
    ·exact⟨z2,by omega⟩
    ·cases hn) ⟨by simp,fun i hi=>by
  rw[cell_of_row _ _ _ _ _ _ (heap_alloc_new _ _)];have hi2:i<3:=hi
  rcases(show i=0\/i=1\/i=2 by omega)with rfl | rfl | rfl
  ·show some (Value.int .i64 x)=some (Value.int .i64 ((x.toNat:Nat):Int));rw[Int.toNat_of_nonneg x1]
  ·show some (Value.int .i64 y)=some (Value.int .i64 ((y.toNat:Nat):Int));rw[Int.toNat_of_nonneg y1]
  ·show some (Value.int .i64 z)=some (Value.int .i64 ((z.toNat:Nat):Int));rw[Int.toNat_of_nonneg z1]⟩
 refine Calls.mono (show Calls Tryz.prog 90 #[.int .i64 b,.slice (some ⟨W.heap.size,0,none⟩) 3 3] _ _ from h) ?_;rintro e w' ⟨he,hb⟩;refine⟨by rw[he];unfold lu lu lu lu;rw[List.append_nil],(ap W _).trans (hb.mono (by simp))⟩
end
section
open Go.RowKit
set_option maxHeartbeats 4000000 in
theorem yn (g:Sg) (n₀:Nat) (a:Option Addr) (cap:Nat) (S:ByteArray) (sum:Nat) (w:World) (ok:g.Ok) (hS:S.data.toList=g.s) (hc:SpAt w n₀ a g.bl) (hn:n₀<=w.heap.size) (hsum:sum<65536) :
  Calls Tryz.prog 88 #[.agg #[g.fp,g.tp,g.sq,g.ak,g.syn,g.fin,g.rst,g.has,g.win,g.mss,g.sacks,.slice a g.bl.length cap,.string S],.int .i64 sum] w fun e w'=>e= .returned (.string ⟨(g.wr sum).toArray⟩)/\Below w.heap.size w w':=by
 have HV:=hid ok;have b1:=hid (fun W=>ym g a cap S W);have HG:=hid (show g.wr sum=g.head++be 2 sum++ks g.bl++g.s from rfl);have HH:=hid (show g.head=be 2 g.fp.toNat++be 2 g.tp.toNat++be 4 g.sq.toNat++be 4 g.ak.toNat++be 1 g.flag++be 1 g.bl.length++be 2 g.win.toNat++be 2 g.mss.toNat from rfl)
 have b2:=hid (show 0<=g.mss/\g.mss<=65535 by
  cases hsy:g.syn with
  | false=>have:=(ok.mss hsy).1;omega
  | true=>rcases ok.mssS hsy with h | h <;> omega)
 have h3:=ok.blen
 have hsl:S.size<=1024:=by
  have:=ok.slen;have e:S.data.toList.length=S.size:=by rw[Array.length_toList];rfl
  rw[hS]at e;omega
 have b6:=hid hS;have am:=hid hc;have b8:=hid g.flag_lt;generalize bu:g.wr sum=gw at HG|-;clear bu;generalize g.head=gh at HG HH;generalize hfl:g.flag=fl at b1 b8 HH;clear hfl;have HN:=hid (kX.new w g a cap S);obtain⟨fp,tp,sq,ak,syn,fin,rst,has,win,mss,sacks,bl,s⟩:=g;clear ok hS hc;dsimp only at b1 HG HH HN b2 h3 b6 am|-;have an:=hid (ap w (.cells #[fp,tp,sq,ak,syn,fin,rst,has,win,mss,sacks,.slice a bl.length cap,.string S] 43))
 go_enter Tryz.func88,Tryz.ntmps88
 go_wp2_with fail;generalize hW1:w.alloc (.cells #[fp,tp,sq,ak,syn,fin,rst,has,win,mss,sacks,.slice a bl.length cap,.string S] 43)=W1 at HN an|-;have hsz1:W1.heap.size=w.heap.size+1:=by rw[<-hW1];simp
 have ax:=hid (Lib.fresh_isBuilder 174 5 W1);have HA:=hid ((HN.o).below (ap W1 (.cells #[.pointer none,.slice none 0 0] 174)) HN.lt);have HW:=hid (an.trans ((ap W1 (.cells #[.pointer none,.slice none 0 0] 174)).mono (by omega)));have ag:(W1.alloc (.cells #[.pointer none,.slice none 0 0] 174)).heap.size=w.heap.size+1+1:=by simp;omega
 obtain⟨B,hB⟩:∃B,B=w.heap.size+1:=⟨_,rfl⟩;rw[hsz1,<-hB]at ax;rw[<-hB]at ag|-;generalize W1.alloc (.cells #[.pointer none,.slice none 0 0] 174)=W2 at ax HA HW ag|-;have av:w.heap.size<B:=by omega
 have a7:w.heap.size<=B:=by omega
 have b3:=hid ag;have hsz:B<=W2.heap.size:=by omega
 obtain⟨a5,hacc⟩:∃a5:List UInt8,a5=[]:=⟨_,rfl⟩;have a3:=hid hacc;have HI:Hid (Lib.IsBuilder 174 5 B B (Lib.byteCells a5) W2):=hid (by rw[hacc];exact ax.o);have hal:a5.length<=0:=by rw[hacc];exact Nat.le_refl _
 clear hacc ax hsz1 hW1 HN an hB ag;obtain⟨z0,z1,z2,z3,z4,z5,z6,z7,z8,z9,a0,a1,aF⟩:=HA.cells;dsimp only at z0 z1 z2 z3 z4 z5 z6 z7 z8 z9 a0 a1 aF;refine(yR 2 (by omega) (by omega) fp tp (yf (by have:=HV.fp.1;dsimp only at this;omega) HV.fp.2) (yf (by have:=HV.tp.1;dsimp only at this;omega) HV.tp.2) W2 _ _ b3.symm).mono ?_;rintro e u1a⟨rfl,hb1⟩;obtain⟨t1,hs1⟩:∃t1:ByteArray,t1=⟨(be 2 fp.toNat++be 2 tp.toNat).toArray⟩:=⟨_,rfl⟩;rw[<-hs1];have a9:=hid (show t1.data.toList=be 2 fp.toNat++be 2 tp.toNat by rw[hs1]);have a6:t1.size<=4:=by rw[hs1,yI];simp only[List.length_append,dr];omega
 replace HA:=hid (HA.below hb1 HA.lt);replace HW:=hid (HW.trans (hb1.mono HW.size));replace hsz:=Nat.le_trans hsz hb1.size;replace HI:=hid (yH HI.o hb1);clear hs1 hb1 z0 z1 z2 z3 z4 z5 z6 z7 z8 z9 a0 a1 aF;obtain⟨z0,z1,z2,z3,z4,z5,z6,z7,z8,z9,a0,a1,aF⟩:=HA.cells;dsimp only at z0 z1 z2 z3 z4 z5 z6 z7 z8 z9 a0 a1 aF;go_wp2_with fail;refine(yD B B (Lib.byteCells a5) t1 _ HI.o (by rw[Lib.byteCells_length];omega) hsz).mono ?_;rintro e u1⟨rfl,hI,hb2⟩;rw[show Lib.strCells t1=Lib.byteCells t1.data.toList from rfl,<-Lib.byteCells_append]at hI;have a2:(a5++t1.data.toList).length<=4:=by rw[List.length_append,show t1.data.toList.length=t1.size by rw[Array.length_toList];rfl];omega
 replace a3:=hid (show a5++t1.data.toList=(be 2 fp.toNat++be 2 tp.toNat) by rw[a9.o,a3.o];rfl);clear z0 z1 z2 z3 z4 z5 z6 z7 z8 z9 a0 a1 aF;replace HA:=hid (HA.below hb2 av);replace HW:=hid (HW.trans (hb2.mono a7));replace hsz:=Nat.le_trans hsz hb2.size;replace HI:=hid hI;clear hI hb2 a9 hal a6;generalize a5++t1.data.toList=ab at HI a3 a2;clear a5;have hal:=a2;clear a2;obtain⟨z0,z1,z2,z3,z4,z5,z6,z7,z8,z9,a0,a1,aF⟩:=HA.cells;dsimp only at z0 z1 z2 z3 z4 z5 z6 z7 z8 z9 a0 a1 aF;go_wp2_with fail;refine(yR 4 (by omega) (by omega) sq ak (yj HV.sq.1 HV.sq.2) (yj HV.ak.1 HV.ak.2) u1 _ _ rfl).mono ?_;rintro e u2a⟨rfl,hb1⟩;obtain⟨t2,hs1⟩:∃t2:ByteArray,t2=⟨(be 4 sq.toNat++be 4 ak.toNat).toArray⟩:=⟨_,rfl⟩;rw[<-hs1];have a9:=hid (show t2.data.toList=be 4 sq.toNat++be 4 ak.toNat by rw[hs1]);have a6:t2.size<=8:=by rw[hs1,yI];simp only[List.length_append,dr];omega
 replace HA:=hid (HA.below hb1 HA.lt);replace HW:=hid (HW.trans (hb1.mono HW.size));replace hsz:=Nat.le_trans hsz hb1.size;replace HI:=hid (yH HI.o hb1);clear hs1 hb1 z0 z1 z2 z3 z4 z5 z6 z7 z8 z9 a0 a1 aF;obtain⟨z0,z1,z2,z3,z4,z5,z6,z7,z8,z9,a0,a1,aF⟩:=HA.cells;dsimp only at z0 z1 z2 z3 z4 z5 z6 z7 z8 z9 a0 a1 aF;go_wp2_with fail;refine(yD B B (Lib.byteCells ab) t2 _ HI.o (by rw[Lib.byteCells_length];omega) hsz).mono ?_;rintro e u2⟨rfl,hI,hb2⟩;rw[show Lib.strCells t2=Lib.byteCells t2.data.toList from rfl,<-Lib.byteCells_append]at hI;have a2:(ab++t2.data.toList).length<=12:=by rw[List.length_append,show t2.data.toList.length=t2.size by rw[Array.length_toList];rfl];omega
 replace a3:=hid (show ab++t2.data.toList=(be 2 fp.toNat++be 2 tp.toNat)++(be 4 sq.toNat++be 4 ak.toNat) by rw[a9.o,a3.o]);clear z0 z1 z2 z3 z4 z5 z6 z7 z8 z9 a0 a1 aF;replace HA:=hid (HA.o.below hb2 av);replace HW:=hid (HW.o.trans (hb2.mono a7));replace hsz:=Nat.le_trans hsz hb2.size;replace HI:=hid hI;clear hI hb2 a9 hal a6;generalize ab++t2.data.toList=ac at HI a3 a2;clear ab;have hal:=a2;clear a2;obtain⟨z0,z1,z2,z3,z4,z5,z6,z7,z8,z9,a0,a1,aF⟩:=HA.o.cells;dsimp only at z0 z1 z2 z3 z4 z5 z6 z7 z8 z9 a0 a1 aF;go_wp2_with fail;clear z0 z1 z2 z3 z4 z5 z6 z7 z8 z9 a0 a1 aF;refine bC (kX w.heap.size ⟨fp,tp,sq,ak,syn,fin,rst,has,win,mss,sacks,bl,s⟩ a cap S) (show kX _ _ a cap S u2.drew from HA.o) fun hZ=>?_;refine aO 0 ?_ (hy:=by intro w hSw;(obtain⟨z0,z1,z2,z3,z4,z5,z6,z7,z8,z9,a0,a1,aF⟩:=kX.cells hSw;dsimp only at z0 z1 z2 z3 z4 z5 z6 z7 z8 z9 a0 a1 aF);go_simp;(try with_reducible rfl));refine aO 2 ?_ (hy:=by intro w hSw;(obtain⟨z0,z1,z2,z3,z4,z5,z6,z7,z8,z9,a0,a1,aF⟩:=kX.cells hSw;dsimp only at z0 z1 z2 z3 z4 z5 z6 z7 z8 z9 a0 a1 aF);go_simp;(try with_reducible rfl));refine aO 3 ?_ (hy:=by intro w hSw;(obtain⟨z0,z1,z2,z3,z4,z5,z6,z7,z8,z9,a0,a1,aF⟩:=kX.cells hSw;dsimp only at z0 z1 z2 z3 z4 z5 z6 z7 z8 z9 a0 a1 aF);go_simp;(try with_reducible rfl));refine aO 4 ?_ (hy:=by intro w hSw;(obtain⟨z0,z1,z2,z3,z4,z5,z6,z7,z8,z9,a0,a1,aF⟩:=kX.cells hSw;dsimp only at z0 z1 z2 z3 z4 z5 z6 z7 z8 z9 a0 a1 aF);go_simp;(try with_reducible rfl));refine aX 1 fun Kq hKq=> ?_;go_simp;refine(b1.o _).mono ?_;rintro e r1⟨rfl,hb1⟩;replace HA:=hid (HA.o.below ((Below.refl _ _).drew.trans hb1) HA.o.lt);replace HW:=hid (HW.o.trans (((Below.refl _ u2).drew.trans hb1).mono HW.o.size));replace hsz:=Nat.le_trans hsz (show _<=r1.heap.size from hb1.size);replace HI:=hid (yH HI.o ((Below.refl _ u2).drew.trans hb1));clear hb1;go_simp;refine hKq.out _ _ (HA.o) ?_;clear hKq Kq hZ;refine fun hZ=>aT ?_;refine aX 5 fun Kq hKq=> ?_;go_simp;refine hKq.out _ _ (HA.o.below (ap r1 _) HA.o.lt) ?_;clear hKq Kq hZ;refine fun hZ=>aT ?_;refine aX 6 fun Kq hKq=> ?_;go_simp;refine(yR 1 (by omega) (by omega) ((fl:Nat):Int) ((bl.length:Nat):Int) (zo (by omega) (by have:=b8.o;omega)) (zo (by omega) (by omega)) r1 _ _ rfl).mono ?_;rintro e r2⟨rfl,hb1⟩;obtain⟨t3,hs1⟩:∃t3:ByteArray,t3=⟨(be 1 ((fl:Nat):Int).toNat++be 1 ((bl.length:Nat):Int).toNat).toArray⟩:=⟨_,rfl⟩;rw[<-hs1];have a9:=hid (show t3.data.toList=be 1 ((fl:Nat):Int).toNat++be 1 ((bl.length:Nat):Int).toNat by rw[hs1]);have a6:t3.size<=2:=by rw[hs1,yI];simp only[List.length_append,dr];omega
 replace HA:=hid (HA.below hb1 HA.lt);replace HW:=hid (HW.trans (hb1.mono HW.size));replace hsz:=Nat.le_trans hsz hb1.size;replace HI:=hid (yH HI.o hb1);clear hs1 hb1;go_simp;refine hKq.out _ _ (HA.o) ?_;clear hKq Kq hZ;refine fun hZ=>aT ?_;refine aX 7 fun Kq hKq=> ?_;go_simp;refine(yD B B (Lib.byteCells ac) t3 _ HI.o (by rw[Lib.byteCells_length];omega) hsz).mono ?_;rintro e u3⟨rfl,hI,hb2⟩;rw[show Lib.strCells t3=Lib.byteCells t3.data.toList from rfl,<-Lib.byteCells_append]at hI;have a2:(ac++t3.data.toList).length<=14:=by rw[List.length_append,show t3.data.toList.length=t3.size by rw[Array.length_toList];rfl];omega
 replace a3:=hid (show ac++t3.data.toList=(be 2 fp.toNat++be 2 tp.toNat)++(be 4 sq.toNat++be 4 ak.toNat)++(be 1 ((fl:Nat):Int).toNat++be 1 ((bl.length:Nat):Int).toNat) by rw[a9.o,a3.o]);replace HA:=hid (HA.below hb2 av);replace HW:=hid (HW.trans (hb2.mono a7));replace hsz:=Nat.le_trans hsz hb2.size;replace HI:=hid hI;clear hI hb2 a9 hal a6;generalize ac++t3.data.toList=ad at HI a3 a2;clear ac;have hal:=a2;clear a2;go_simp;refine hKq.out _ _ (HA.o) ?_;clear hKq Kq hZ;refine fun hZ=>aT ?_;refine az ?_ _
 skip
 obtain⟨z0,z1,z2,z3,z4,z5,z6,z7,z8,z9,a0,a1,aF⟩:=HA.cells;dsimp only at z0 z1 z2 z3 z4 z5 z6 z7 z8 z9 a0 a1 aF;go_wp2_with fail;refine(zl 2 (by omega) (by omega) win mss ((sum:Nat):Int) (yf HV.win.1 HV.win.2) (yf (b2.o).1 (b2.o).2) (yf (by omega) (by omega)) u3 _ _ rfl).mono ?_;rintro e u4a⟨rfl,hb1⟩;obtain⟨t4,hs1⟩:∃t4:ByteArray,t4=⟨(be 2 win.toNat++(be 2 mss.toNat++be 2 ((sum:Nat):Int).toNat)).toArray⟩:=⟨_,rfl⟩;rw[<-hs1];have a9:=hid (show t4.data.toList=be 2 win.toNat++(be 2 mss.toNat++be 2 ((sum:Nat):Int).toNat) by rw[hs1]);have a6:t4.size<=6:=by rw[hs1,yI];simp only[List.length_append,dr];omega
 replace HA:=hid (HA.below hb1 HA.lt);replace HW:=hid (HW.trans (hb1.mono HW.size));replace hsz:=Nat.le_trans hsz hb1.size;replace HI:=hid (yH HI.o hb1);clear hs1 hb1 z0 z1 z2 z3 z4 z5 z6 z7 z8 z9 a0 a1 aF;obtain⟨z0,z1,z2,z3,z4,z5,z6,z7,z8,z9,a0,a1,aF⟩:=HA.cells;dsimp only at z0 z1 z2 z3 z4 z5 z6 z7 z8 z9 a0 a1 aF;go_wp2_with fail;refine(yD B B (Lib.byteCells ad) t4 _ HI.o (by rw[Lib.byteCells_length];omega) hsz).mono ?_;rintro e u4⟨rfl,hI,hb2⟩;rw[show Lib.strCells t4=Lib.byteCells t4.data.toList from rfl,<-Lib.byteCells_append]at hI;have a2:(ad++t4.data.toList).length<=20:=by rw[List.length_append,show t4.data.toList.length=t4.size by rw[Array.length_toList];rfl];omega
 replace a3:=hid (show ad++t4.data.toList=(be 2 fp.toNat++be 2 tp.toNat)++(be 4 sq.toNat++be 4 ak.toNat)++(be 1 ((fl:Nat):Int).toNat++be 1 ((bl.length:Nat):Int).toNat)++(be 2 win.toNat++(be 2 mss.toNat++be 2 ((sum:Nat):Int).toNat)) by rw[a9.o,a3.o]);clear z0 z1 z2 z3 z4 z5 z6 z7 z8 z9 a0 a1 aF;replace HA:=hid (HA.below hb2 av);replace HW:=hid (HW.trans (hb2.mono a7));replace hsz:=Nat.le_trans hsz hb2.size;replace HI:=hid hI;clear hI hb2 a9 hal a6;generalize ad++t4.data.toList=acc4 at HI a3 a2;clear ad;have hal:=a2;clear a2;obtain⟨z0,z1,z2,z3,z4,z5,z6,z7,z8,z9,a0,a1,aF⟩:=HA.cells;dsimp only at z0 z1 z2 z3 z4 z5 z6 z7 z8 z9 a0 a1 aF;go_wp2_with fail;obtain⟨W4,hW4⟩:∃W4,W4=u4:=⟨_,rfl⟩;subst hW4;have bv:acc4.length<=20:=hal;clear z0 z1 z2 z3 z4 z5 z6 z7 z8 z9 a0 a1 aF hal
 go_loopw [41] (fun p wr=>∃k:Nat,k<=bl.length/\p=((k:Int):Y)/\Lib.IsBuilder 174 5 B B (Lib.byteCells (acc4++ks (bl.take k))) wr/\kX w.heap.size ⟨fp,tp,sq,ak,syn,fin,rst,has,win,mss,sacks,bl,s⟩ a cap S wr/\Below w.heap.size w wr/\B<=wr.heap.size) (fun p _=>bl.length-(intOf p).toNat)
 case atStart=>exact⟨0,Nat.zero_le _,rfl,by rw[List.take_zero];show Lib.IsBuilder _ _ _ _ (Lib.byteCells (acc4++[])) _;rw[List.append_nil];exact HI.o,HA.o,HW.o,hsz⟩
 case round =>
  clear HI HA HW hsz;obtain⟨k,hk,rfl,hI,hA,b4,hsz⟩:=hrel;have HI:=hid hI;have HA:=hid hA;have HW:=hid b4;have hws:=b4.size;clear hI hA b4;have hlen:(acc4++ks (bl.take k)).length<=44:=by rw[List.length_append,mg,List.length_take];omega
  by_cases hlt:k<bl.length
  ·obtain⟨bb,off,rfl,hbl,hcs⟩:=am.cells (by omega);obtain⟨c0,c1⟩:=hcs k hlt;have hv:=HV.blk _ (List.getElem_mem hlt);have d0:=(HW.cell (p:=⟨bb,_,none⟩) (by show bb<w.heap.size;omega)).trans c0;have d1:=(HW.cell (p:=⟨bb,_,none⟩) (by show bb<w.heap.size;omega)).trans c1;have HS:=hid (show ks (bl.take (k+1))=ks (bl.take k)++(be 4 bl[k].1.toNat++be 4 bl[k].2.toNat) by rw[List.take_succ_eq_append_getElem hlt,vt];show _++(be 4 _++be 4 _++[])=_;rw[List.append_nil]);clear hcs c0 c1;have HX:∃x,x=bl[k]:=⟨_,rfl⟩;clear HX;generalize bl[k]=x at d0 d1 hv HS;obtain⟨x1,x2⟩:=x;obtain⟨⟨v1,v2⟩,⟨v3,v4⟩,-⟩:=hv;dsimp only at d0 d1 v1 v2 v3 v4 HS;have bx:=hid (yj v1 v2);have cC:=hid (yj v3 v4);clear v1 v2 v3 v4;have cX:(k:Int)<(bl.length:Int):=by omega
   have hk3:(k:Int)<=3:=by omega
   obtain⟨W5,hW5⟩:∃W5,W5=wr.alloc (.cells #[x1,x2] 92):=⟨_,rfl⟩;have bI:Below wr.heap.size wr W5:=by rw[hW5];exact ap _ _
   have b9:W5.heap.size=wr.heap.size+1:=by rw[hW5];simp
   have cF:=hid hW5;have cL:=hid b9;replace HA:=hid (HA.below bI HA.lt);replace HW:=hid (HW.trans (bI.mono HW.size));replace HI:=hid (yH HI.o bI);have aa:B<=W5.heap.size:=by omega
   clear hW5 b9 bI;go_wp2_with fail;rw[<-cF.o];refine(yR 4 (by omega) (by omega) x1 x2 bx.o cC.o W5 _ _ cL.symm).mono ?_;rintro e y1⟨rfl,hb1⟩;obtain⟨q1,hs1⟩:∃q1:ByteArray,q1=⟨(be 4 x1.toNat++be 4 x2.toNat).toArray⟩:=⟨_,rfl⟩;rw[<-hs1];have a9:=hid (show q1.data.toList=be 4 x1.toNat++be 4 x2.toNat by rw[hs1]);have a6:q1.size<=8:=by rw[hs1,yI];simp only[List.length_append,dr];omega
   replace HA:=hid (HA.below hb1 HA.lt);replace HW:=hid (HW.trans (hb1.mono HW.size));replace aa:=Nat.le_trans aa hb1.size;replace HI:=hid (yH HI.o hb1);clear hs1 hb1 d0 d1;go_wp2_with fail;refine(yD B B (Lib.byteCells (acc4++ks (bl.take k))) q1 _ HI.o (by rw[Lib.byteCells_length];omega) aa).mono ?_;rintro e y2⟨rfl,hI,hb2⟩;rw[show Lib.strCells q1=Lib.byteCells q1.data.toList from rfl,<-Lib.byteCells_append,a9.o,List.append_assoc,<-HS.o]at hI;replace HA:=hid (HA.below hb2 av);replace HW:=hid (HW.trans (hb2.mono a7));replace aa:=Nat.le_trans aa hb2.size;replace HI:=hid hI;clear hI hb2;go_wp2_with fail;exact⟨⟨k+1,hlt,by simp,HI.o,HA.o,HW.o,aa⟩,by simp[intOf];omega⟩
  obtain rfl:k=bl.length:=by omega
  have cM:=hid (show ks (bl.take bl.length)=ks bl by rw[List.take_length]);rw[cM.o]at HI hlen;obtain⟨-,-,-,-,-,-,-,-,-,-,-,-,aF⟩:=HA.cells
  try dsimp only at aF
  go_wp2_with fail;refine(yD B B (Lib.byteCells (acc4++ks bl)) S _ HI.o (by rw[Lib.byteCells_length];omega) hsz).mono ?_;rintro e y2⟨rfl,hI,hb2⟩;rw[show Lib.strCells S=Lib.byteCells S.data.toList from rfl,<-Lib.byteCells_append]at hI;replace HW:=hid (HW.trans (hb2.mono a7));replace hsz:=Nat.le_trans hsz hb2.size;replace HI:=hid hI;clear hI hb2 aF;go_wp2_with fail;refine(yV B B _ _ HI.o hsz).mono ?_;rintro e y3⟨rfl,hb3⟩;have HE:=hid (show(acc4++ks bl)++S.data.toList=gw by rw[HG.o,HH.o,a3.o,b6.o];simp only[Int.toNat_natCast,List.append_assoc]);rw[HE.o];replace HW:=hid (HW.trans (hb3.mono a7));clear hb3;go_wp2;go_ret;exact⟨rfl,HW.o⟩
end
section
open Go.RowKit
theorem Sg.wr_le (g:Sg)(ok:g.Ok)(sum:Nat):(g.wr sum).length<=1100:=by
 have:=ok.slen;have:=ok.blen;rw[Sg.wr_length];omega
set_option maxHeartbeats 4000000 in
theorem yg (src dst:Int) (g:Sg) (n₀:Nat) (a:Option Addr) (cap:Nat) (S:ByteArray) (w:World) (hs:0<=src/\src<=4294967295) (hd:0<=dst/\dst<=4294967295) (ok:g.Ok) (hS:S.data.toList=g.s) (hc:SpAt w n₀ a g.bl) (hn:n₀<=w.heap.size) :
  Calls Tryz.prog 46 #[src,dst,.agg #[g.fp,g.tp,g.sq,g.ak,g.syn,g.fin,g.rst,g.has,g.win,g.mss,g.sacks,.slice a g.bl.length cap,.string S]] w fun e w'=>e= .returned (.tuple #[.string ⟨(g.encL src.toNat dst.toNat).toArray⟩,(0:Int)])/\Below w.heap.size w w':=by
 have ba:=hid (fun W (h:SpAt W n₀ a g.bl) (hn:n₀<=W.heap.size)=>mZ g n₀ a cap S W ok hS h hn);have b0:=hid (fun sum W (h:SpAt W n₀ a g.bl) (hn:n₀<=W.heap.size) (hsum:sum<65536)=>yn g n₀ a cap S sum W ok hS h hn hsum);have bc:=hid (g.wr_le ok 0);have HE:=hid (show g.wr (rt (g.psd src.toNat dst.toNat))=g.encL src.toNat dst.toNat from rfl);have b5:=hid (show g.psd src.toNat dst.toNat=be 4 src.toNat++be 4 dst.toNat++(be 2 6++be 2 (g.wr 0).length)++g.wr 0 from rfl);have am:=hid hc;have HN:=hid (kX.new w g a cap S);generalize g.encL src.toNat dst.toNat=enc at HE|-;generalize g.psd src.toNat dst.toNat=psd at HE b5;generalize g.wr=wr at b0 bc HE b5;obtain⟨fp,tp,sq,ak,syn,fin,rst,has,win,mss,sacks,bl,s⟩:=g;clear ok hS hc;dsimp only at ba b0 am HN|-;have an:=hid (ap w (.cells #[fp,tp,sq,ak,syn,fin,rst,has,win,mss,sacks,.slice a bl.length cap,.string S] 43))
 go_enter Tryz.func46,Tryz.ntmps46
 go_wp2_with fail;generalize hW1:w.alloc (.cells #[fp,tp,sq,ak,syn,fin,rst,has,win,mss,sacks,.slice a bl.length cap,.string S] 43)=W1 at HN an|-;clear hW1;have HA:=HN;have HW:=an;clear HN an;refine(ub src _ hs).mono ?_;rintro e w9⟨rfl,rfl⟩;go_wp2_with fail;refine(ub dst _ hd).mono ?_;rintro e w9⟨rfl,rfl⟩;obtain⟨z0,z1,z2,z3,z4,z5,z6,z7,z8,z9,a0,a1,aF⟩:=HA.cells;dsimp only at z0 z1 z2 z3 z4 z5 z6 z7 z8 z9 a0 a1 aF;go_wp2_with fail;refine(ba.o _ (am.below (HW.mono hn)) (Nat.le_trans hn HW.size)).mono ?_;rintro e w2⟨rfl,hb1⟩;replace HA:=hid (HA.below hb1 HA.lt);replace HW:=hid (HW.trans (hb1.mono HW.size));clear hb1 z0 z1 z2 z3 z4 z5 z6 z7 z8 z9 a0 a1 aF;obtain⟨z0,z1,z2,z3,z4,z5,z6,z7,z8,z9,a0,a1,aF⟩:=HA.cells;dsimp only at z0 z1 z2 z3 z4 z5 z6 z7 z8 z9 a0 a1 aF;go_wp2_with fail;refine(b0.o 0 _ (am.below (HW.mono hn)) (Nat.le_trans hn HW.size) (by omega)).mono ?_;rintro e w3⟨rfl,hb1⟩;replace HA:=hid (HA.below hb1 HA.lt);replace HW:=hid (HW.trans (hb1.mono HW.size));clear hb1 z0 z1 z2 z3 z4 z5 z6 z7 z8 z9 a0 a1 aF;obtain⟨bare,hbr⟩:∃bare:ByteArray,bare=⟨(wr 0).toArray⟩:=⟨_,rfl⟩;rw[<-hbr];have bd:=hid (show bare.data.toList=wr 0 by rw[hbr]);have hbl:bare.size<=1100:=by rw[hbr,yI];exact bc.o
 clear hbr;go_wp2_with fail;refine(yR 4 (by omega) (by omega) src dst (yj hs.1 hs.2) (yj hd.1 hd.2) w3 _ _ rfl).mono ?_;rintro e w4⟨rfl,hb1⟩;replace HA:=hid (HA.below hb1 HA.lt);replace HW:=hid (HW.trans (hb1.mono HW.size));obtain⟨t1,hs1⟩:∃t1:ByteArray,t1=⟨(be 4 src.toNat++be 4 dst.toNat).toArray⟩:=⟨_,rfl⟩;rw[<-hs1];have a9:=hid (show t1.data.toList=be 4 src.toNat++be 4 dst.toNat by rw[hs1]);have a6:t1.size<=8:=by rw[hs1,yI];simp only[List.length_append,dr];omega
 clear hs1 hb1;go_wp2_with fail;refine(yR 2 (by omega) (by omega) 6 (bare.size:Int) (yf (by omega) (by omega)) (yf (by omega) (by omega)) w4 _ _ rfl).mono ?_;rintro e w5⟨rfl,hb1⟩;replace HA:=hid (HA.below hb1 HA.lt);replace HW:=hid (HW.trans (hb1.mono HW.size));obtain⟨t2,hs1⟩:∃t2:ByteArray,t2=⟨(be 2 (6:Int).toNat++be 2 (bare.size:Int).toNat).toArray⟩:=⟨_,rfl⟩;rw[<-hs1];have cS:=hid (show t2.data.toList=be 2 (6:Int).toNat++be 2 (bare.size:Int).toNat by rw[hs1]);have cT:t2.size<=4:=by rw[hs1,yI];simp only[List.length_append,dr];omega
 clear hs1 hb1;go_wp2_with fail;refine(yl (t1++t2++bare) (by rw[ByteArray.size_append,ByteArray.size_append];omega) _).mono ?_;rintro e w6⟨rfl,hb1⟩;replace HA:=hid (HA.below hb1 HA.lt);replace HW:=hid (HW.trans (hb1.mono HW.size));rw[show(t1++t2++bare).data.toList=psd by rw[b5.o];simp only[ByteArray.data_append,Array.toList_append,a9.o,cS.o,bd.o];rw[show(bare.size:Int).toNat=(wr 0).length by rw[<-bd.o,Array.length_toList];rfl];rfl];have bn:=xF psd;generalize rt psd=ck at HE bn|-;clear hb1;obtain⟨z0,z1,z2,z3,z4,z5,z6,z7,z8,z9,a0,a1,aF⟩:=HA.cells;dsimp only at z0 z1 z2 z3 z4 z5 z6 z7 z8 z9 a0 a1 aF;go_wp2_with fail;refine(b0.o ck _ (am.below (HW.mono hn)) (Nat.le_trans hn HW.size) bn).mono ?_;rintro e w7⟨rfl,hb1⟩;replace HA:=hid (HA.below hb1 HA.lt);replace HW:=hid (HW.trans (hb1.mono HW.size));clear hb1 z0 z1 z2 z3 z4 z5 z6 z7 z8 z9 a0 a1 aF;rw[HE.o];go_wp2_with fail
 go_ret2
 exact⟨rfl,HW.o⟩
end
end Go.Proofs.YtclkcmidhhfdmaaGreatDoor
