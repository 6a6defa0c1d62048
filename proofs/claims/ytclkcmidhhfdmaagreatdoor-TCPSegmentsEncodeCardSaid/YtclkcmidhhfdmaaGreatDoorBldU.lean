import Derived.Test.YtclkcmidhhfdmaaGreatDoorUc
import Derived.Shelf.Strings.Builder1
import Derived.Test.YtclkcmidhhfdmaaGreatDoorRows
import Derived.WalkKit
import Derived.Lib.Hide
import Derived.Outline
namespace Go.Proofs.YtclkcmidhhfdmaaGreatDoor
set_option maxRecDepth 100000
open Go.Shelf Go.RowKit
def zJ:Go.Shelf.Ren:=⟨fun | 169=>132 | n=>n,fun | 70=>172 | 9=>9 | 0=>0 | 72=>174 | 37=>112 | 127=>214 | 3=>3 | 5=>5 | n=>n,fun | n=>n⟩
theorem ze:Go.Proofs.Lays.n169 Tryz.prog zJ:={
 mixed:=by kernel_rfl
 f169:=Tryz.func132.trans (congrArg some (by kernel_rfl))
 t0:=Tryz.underlying0
 a0:=Tryz.isAgg0
 z0:=Tryz.sizeOf0
 v0:=Tryz.zeroValue0
 t3:=Tryz.underlying3
 a3:=Tryz.isAgg3
 z3:=Tryz.sizeOf3
 v3:=Tryz.zeroValue3
 t9:=Tryz.underlying9
 a9:=Tryz.isAgg9
 z9:=Tryz.sizeOf9
 v9:=Tryz.zeroValue9
 t37:=Tryz.underlying112
 a37:=Tryz.isAgg112
 z37:=Tryz.sizeOf112
 v37:=Tryz.zeroValue112
 t70:=Tryz.underlying172
 a70:=Tryz.isAgg172
 z70:=Tryz.sizeOf172
 v70:=Tryz.zeroValue172
 t72:=Tryz.underlying174
 a72:=Tryz.isAgg174
 z72:=Tryz.sizeOf174
 v72:=Tryz.zeroValue174
 t127:=Tryz.underlying214
 a127:=Tryz.isAgg214
 z127:=Tryz.sizeOf214
 v127:=Tryz.zeroValue214 }
theorem ya:Builder.Extra Tryz.prog zJ:={
 sizeBuilder:=by kernel_rfl
 liesBuilder:=by kernel_rfl
 t5:=Tryz.underlying5
 a5:=Tryz.isAgg5
 z5:=Tryz.sizeOf5
 v5:=Tryz.zeroValue5
 infoByte:=by kernel_rfl
 cellsByte:=by kernel_rfl
 sizeByte:=by kernel_rfl
 neB5:=by decide }
theorem yV (B b:Nat)(l:List UInt8)(w:World)(h:Lib.IsBuilder 174 5 B b (Lib.byteCells l) w)(hBw:B<=w.heap.size) :
 Calls Tryz.prog 132 #[b] w fun e w'=>e= .returned (.string ⟨l.toArray⟩)/\Below B w w':=Any.Builder_String_any ze ya B b l w h hBw
theorem zA:(Tryz.prog.info? 174).map (·.size)=some 2:=by kernel_rfl
set_option maxHeartbeats 1000000 in
theorem yb (b:Nat) (w:World) (h0:w.cell? b=some (b:Y)) :
  Calls Tryz.prog 175 #[b] w fun e w'=>e= .returned (.tuple #[])/\w=w':=by
 obtain⟨j,hj,_⟩:=Option.map_eq_some_iff.1 zA
 go_enter Tryz.func175,Tryz.ntmps175
 go_wp2
 rw[Lib.run_neq_ptr_same w _ Tryz.underlying172 hj]
 go_wp2
 go_end0
 exact⟨rfl,rfl⟩
set_option maxHeartbeats 1000000 in
theorem yY (b:Nat) (w:World) (h0:w.cell? b=some (.pointer none)) (hsh:w.shape? b=some (174,2)) (hfz:w.frozen? b=false) :
  Calls Tryz.prog 175 #[b] w fun e w'=>e= .returned (.tuple #[])/\w'=w.setCell b b:=by
 obtain⟨j,hj,hjs⟩:=Option.map_eq_some_iff.1 zA
 go_enter Tryz.func175,Tryz.ntmps175
 go_wp2
 rw[Lib.run_to_unsafe w ⟨b,0,none⟩ Tryz.underlying172 Tryz.underlying244 hj (by rw[hjs];decide) hsh (Nat.zero_lt_succ 1)];simp only[Result.andThen];rw[Oper.upon_value]
 go_wp2
 rw[run_callFunc_extern Tryz.func206 (by kernel_rfl) (by kernel_rfl) (by kernel_rfl) (e:=Extern.AbiNoEscape.same) (by kernel_rfl)];rw[Lib.run_noEscape];simp only[Result.andThen];rw[Oper.upon_value]
 go_wp2
 rw[Lib.run_from_unsafe w ⟨b,0,none⟩ Tryz.underlying244 Tryz.underlying172 hj hsh ya.liesBuilder];simp only[Result.andThen];rw[Oper.upon_value]
 go_wp2
 go_end0
 exact⟨rfl,rfl⟩
theorem yh (B b:Nat)(bs:List Value)(w:World)(h:Lib.IsBuilder 174 5 B b bs w) :
  Calls Tryz.prog 175 #[b] w fun e w'=>e= .returned (.tuple #[])/\(Lib.BuilderAt 174 5 B b b bs w'/\Below B w w'):=by
 rcases h with h | h
 ·refine(yY b w h.cell0 h.shape h.frozen0).mono ?_;rintro e w' ⟨rfl,rfl⟩;exact⟨rfl,h.used _,(Below.refl B w).setCell (p:=⟨b,0,none⟩) h.1 _⟩
 refine(yb b w h.cell0).mono ?_;rintro e w' ⟨rfl,rfl⟩;exact⟨rfl,h,Below.refl B _⟩
set_option maxHeartbeats 2000000 in
theorem yD (B b:Nat) (bs:List Value) (s:ByteArray) (w:World) (h:Lib.IsBuilder 174 5 B b bs w) (hlen:bs.length+s.size<=140737488355328) (hBw:B<=w.heap.size) :
  Calls Tryz.prog 130 #[b,.string s] w fun e w'=>e= .returned (.tuple #[(s.size:Int),.nilIface])/\Lib.IsBuilder 174 5 B b (bs++Lib.strCells s) w'/\Below B w w':=by
 obtain⟨i0,hi,hz0,hz1,hz2⟩:=info_parts ya.infoByte
 go_enter Tryz.func130,Tryz.ntmps130
 go_wp2_with fail;refine(yh B b bs _ h).mono ?_;rintro e w1⟨rfl,h1,hb1⟩;obtain⟨hB,v,hbk,hown,hne⟩:=h1;have c0:w1.cell? b=some (b:Y):=by rw[Lib.cell_of_heap hbk];rfl
 have c1:w1.cell? ⟨b,1,none⟩=some v:=by rw[Lib.cell_of_heap hbk];rfl
 go_wp2_with (at_builtin;refine Lib.wpList_append_own_string _ rfl _ _ 112 9 rfl B 5 i0 Tryz.underlying112 Tryz.underlying9 hi hz0 hz1 hz2 _ _ _ rfl hown s rfl ?c3 ?c4 ?c5 ?_)
 case c3=>unfold maxLen;omega
 case c4=>omega
 case c5=>have:=hb1.size;omega
 intro v' w2 hown' hgrow _
 have hlt:b<w1.heap.size:=by
  rcases Nat.lt_or_ge b w1.heap.size with h' | h'
  ·exact h'
  simp[Array.getElem?_eq_none h']at hbk
 have hb2:w2.heap[b]? =some (.cells #[b,v] 174 (0,0)):=by
  rw[hgrow.block b hlt (fun e=>hne e.symm)];exact hbk
 have d0:w2.cell? b=some (b:Y):=by rw[Lib.cell_of_heap hb2];rfl
 have d1:w2.cell? ⟨b,1,none⟩=some v:=by rw[Lib.cell_of_heap hb2];rfl
 have f1:w2.frozen? ⟨b,1,none⟩=false:=Lib.frozen_of_heap hb2 1
 obtain⟨ao,n',cap,rfl⟩:∃ao n' cap,v'= .slice ao n' cap:=by
  rcases hown'.2 with⟨hv,_⟩ | ⟨g,cap,cur,hv,_⟩
  ·exact⟨_,_,_,hv⟩
  exact⟨_,_,_,hv⟩
 go_wp2
 go_ret2
 refine⟨rfl,Or.inr ?_,?_⟩
 ·exact Lib.BuilderAt.put (T:=174) (e:=5) hB hb2 (bs':=bs++Lib.strCells s) (by simpa[Lib.strCells_length]using hown') (by decide)
 exact(hb1.grown hgrow (by have:=hb1.size;omega) (fun k hk=>(hown.lt k hk).1)).setCell (p:=⟨b,1,none⟩) hB _
end Go.Proofs.YtclkcmidhhfdmaaGreatDoor
