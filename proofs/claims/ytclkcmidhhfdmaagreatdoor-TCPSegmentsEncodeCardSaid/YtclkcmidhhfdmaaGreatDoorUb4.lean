import Derived.WalkKit
import Derived.Laws.Rows
namespace Go.Proofs.YtclkcmidhhfdmaaGreatDoor
open Go.RowKit
structure Chg (B:Nat)(w w':World):Prop where
 os:w'.os=w.os
 tape:w'.tape=w.tape
 output:w'.output=w.output
 size:w.heap.size<=w'.heap.size
 block:∀k,k<w.heap.size->k≠B->w'.heap[k]? =w.heap[k]?
theorem Chg.refl (B:Nat)(w:World):Chg B w w:=⟨rfl,rfl,rfl,Nat.le_refl _,fun _ _ _=>rfl⟩
theorem Chg.trans {B:Nat}{a b c:World}(h:Chg B a b)(k:Chg B b c):Chg B a c :=
 ⟨k.os.trans h.os,k.tape.trans h.tape,k.output.trans h.output,Nat.le_trans h.size k.size,fun i hi hB=>(k.block i (Nat.lt_of_lt_of_le hi h.size) hB).trans (h.block i hi hB)⟩
theorem Chg.drew {B:Nat}{a w:World}(h:Chg B a w):Chg B a w.drew:=⟨h.os,h.tape,h.output,h.size,h.block⟩
theorem Chg.alloc {B:Nat}{a w:World}(h:Chg B a w)(o:Obj):Chg B a (w.alloc o) :=
 ⟨h.os,h.tape,h.output,by have:=h.size;simp;omega,fun k hk hB=>(Below.heap_alloc w o k (Nat.lt_of_lt_of_le hk h.size)).trans (h.block k hk hB)⟩
theorem Chg.setCell {B:Nat}{a w:World}(h:Chg B a w)(i:Nat)(v:Value):Chg B a (w.setCell ⟨B,i,none⟩ v) :=
 ⟨h.os,h.tape,h.output,by simp[World.setCell];exact h.size,fun k hk hB=>(heap_setCell_other w ⟨B,i,none⟩ k v hB).trans (h.block k hk hB)⟩
theorem Chg.setNew {B:Nat}{a w:World}(h:Chg B a w)(p:Addr)(hp:a.heap.size<=p.block)(v:Value):Chg B a (w.setCell p v) :=
 ⟨h.os,h.tape,h.output,by simp[World.setCell];exact h.size,fun k hk hB=>(heap_setCell_other w p k v (by omega)).trans (h.block k hk hB)⟩
theorem Chg.below {B N:Nat}{w w':World}(h:Chg B w w')(hN:N<=B)(hB:B<w.heap.size):Below N w w' :=
 ⟨h.os,h.tape,h.output,h.size,fun k hk=>h.block k (by omega) (by omega)⟩
theorem Chg.of_below {B:Nat}{w w':World}(h:Below w.heap.size w w'):Chg B w w' :=
 ⟨h.os,h.tape,h.output,h.size,fun k hk _=>h.block k hk⟩
theorem Chg.other {B C:Nat}{o:Obj}{w w':World}(h:Chg B w w')(hC:w.heap[C]? =some o)(hne:C≠B):w'.heap[C]? =some o:=by
 rw[h.block C (Array.getElem?_eq_some_iff.1 hC).1 hne];exact hC
theorem Chg.lt {B C:Nat}{w w':World}(h:Chg B w w')(hC:C<w.heap.size):C<w'.heap.size:=Nat.lt_of_lt_of_le hC h.size
end Go.Proofs.YtclkcmidhhfdmaaGreatDoor
