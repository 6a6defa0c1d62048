import Derived.Test.YtclkcmidhhfdmaaGreatDoorUb1
import Derived.Test.YtclkcmidhhfdmaaGreatDoorBldU
import Derived.Test.YtclkcmidhhfdmaaGreatDoorWireGetU
import Derived.WalkSpells
import Derived.WalkLawsBesides
namespace Go.Proofs.YtclkcmidhhfdmaaGreatDoor
open Lib (hid)
set_option maxRecDepth 100000
open Go.RowKit
theorem yH {T e:TypeId}{B b:Nat}{bs:List Value}{w w':World}(h:Lib.IsBuilder T e B b bs w)(hb:Below w.heap.size w w'):Lib.IsBuilder T e B b bs w':=by
 have one:∀p,Lib.BuilderAt T e B b p bs w->Lib.BuilderAt T e B b p bs w':=by
  intro p hp;have hl:=hp.lt;obtain⟨h1,v,h2,h3,h4⟩:=hp;refine⟨h1,v,by rw[hb.block b hl];exact h2,h3.kept (row:=none) ⟨hb.os,hb.tape,hb.output,hb.size,fun i hi _=>hb.block i hi⟩ ?_,h4⟩
  cases v.ownBlock with
  | none=>exact .inl rfl
  | some x=>exact .inr (by simp)
 exact h.imp (one _) (one _)
theorem zx {T e:TypeId}{B b:Nat}{bs:List Value}{w:World}(h:Lib.IsBuilder T e B b bs w):Lib.IsBuilder T e B b bs w.drew:=h
theorem yI (l:List UInt8):(⟨l.toArray⟩:ByteArray).size=l.length:=rfl
def zq (C off:Nat)(ns:List Nat)(w:World):Prop:=C<w.heap.size/\∀i (h:i<ns.length),w.cell? ⟨C,off+i,none⟩=some ((ns[i]:Int):Y)
set_option maxHeartbeats 2000000 in
theorem yd (b C:Nat) (ns:List Nat) (cap:Nat) (w:World) (hb1:1<=b) (hb4:b<=4) (hn:ns.length<=8) (hok:∀n∈ns,n<256 ^ b/\n<=4294967295) (hC:zq C 0 ns w) :
  Calls Tryz.prog 90 #[.int .i64 b,.slice (some ⟨C,0,none⟩) ns.length cap] w fun e w'=>e= .returned (.string ⟨(lu b ns).toArray⟩)/\Below w.heap.size w w':=by
 have HC:=hid hC.2;have a6:=hC.1;have aa:=hid hok;have a1:=hid (Lib.fresh_isBuilder 174 5 w);clear hC hok
 go_enter Tryz.func90,Tryz.ntmps90
 go_wp2_with fail;have a2:=(Below.refl w.heap.size w).alloc (Nat.le_refl _) (.cells #[.pointer none,.slice none 0 0] 174);generalize w.alloc (.cells #[.pointer none,.slice none 0 0] 174)=W0 at *;obtain⟨B,hBB⟩:∃B,w.heap.size=B:=⟨_,rfl⟩;rw[hBB]at a1 a2 a6|-;have a7:=hid hBB;clear hBB
 go_loopw [12] (fun i wr=>∃k:Nat,k<=ns.length/\i=((k:Int):Y)/\Lib.IsBuilder 174 5 B B (Lib.byteCells (lu b (ns.take k))) wr/\Below B w wr) (fun i _=>ns.length-(intOf i).toNat)
 case atStart=>exact⟨0,Nat.zero_le _,rfl,a1.o,a2⟩
 case round =>
  obtain⟨k,hk,rfl,hI,aF⟩:=hrel;clear a2 a1;have hBw:B<=wr.heap.size:=by have:=aF.size;have:=a7.o;omega
  by_cases hlt:k<ns.length
  ·obtain⟨q1,q2⟩:=aa.o _ (List.getElem_mem hlt);have g0:=(aF.cell (p:=⟨C,_,none⟩) a6).trans (HC.o k hlt);rw[Nat.zero_add]at g0;have HS:=hid (show lu b (ns.take (k+1))=lu b (ns.take k)++be b ns[k] by rw[List.take_succ_eq_append_getElem hlt,vu];show _++(be b ns[k]++[])=_;rw[List.append_nil]);generalize ns[k]=m at g0 q1 q2 HS
   have hlen:(lu b (ns.take k)).length<=32:=by
    rw[vv,List.length_take];have:=Nat.mul_le_mul hb4 (show min k ns.length<=8 by omega);omega
   have HP:=hid (yP m b hb1 hb4 q1);have HI:=hid hI;have ab:=hid aF;clear q1 hI aF;have ag:(k:Int)<(ns.length:Int):=by omega
   go_wp2_with fail;refine(zT (m:Int) (b:Int) (by omega) _).mono ?_;rintro e w1⟨rfl,hb1'⟩;rw[HP.1,HP.2];have a9:=yH HI.o hb1';have a0:=ab.trans (hb1'.mono hBw);have a3:B<=w1.heap.size:=Nat.le_trans hBw hb1'.size;have ac:=hid a9;have a4:=hid a0;clear a9 a0 hb1';go_wp2_with fail;refine(yD B B _ ⟨(be b m).toArray⟩ _ ac.o (by rw[Lib.byteCells_length];have h:=dr b m;have h2:=yI (be b m);omega) a3).mono ?_;rintro e w2⟨rfl,hI2,hb2⟩;rw[show Lib.strCells ⟨(be b m).toArray⟩=Lib.byteCells (be b m)from rfl,<-Lib.byteCells_append,<-HS.o]at hI2;have ad:=hid hI2;have a5:=hid (a4.trans hb2);clear hI2 hb2;go_wp2_with fail;exact⟨⟨k+1,hlt,by simp,ad.o,a5.o⟩,by simp[intOf];omega⟩
  obtain rfl:k=ns.length:=by omega
  rw[List.take_length]at hI;go_wp2_with fail;refine(yV B B (lu b ns) _ hI hBw).mono ?_;rintro e w1⟨rfl,hb1'⟩;go_wp2;go_ret;exact⟨rfl,by rw[a7.o];exact aF.trans hb1'⟩
end Go.Proofs.YtclkcmidhhfdmaaGreatDoor
