import Derived.Test.YtcmncipikdpnbaaGreatDoorUc
import Derived.WalkKit
import Derived.Laws.Rows
namespace Go.Proofs.YtcmncipikdpnbaaGreatDoor
open Go.RowKit
structure nF (B:Nat)(w w':World):Prop where
 os:w'.os=w.os
 tape:w'.tape=w.tape
 output:w'.output=w.output
 size:w.heap.size<=w'.heap.size
 block:∀k,k<w.heap.size->k≠B->w'.heap[k]? =w.heap[k]?
theorem nF.refl (B:Nat)(w:World):nF B w w:=⟨Z,Z,Z,L6 _,fun _ _ _=>rfl⟩
theorem nF.trans {B:Nat}{a b c:World}(h:nF B a b)(k:nF B b c):nF B a c :=
 ⟨k.os.trans h.os,k.tape.trans h.tape,k.output.trans h.output,La h.size k.size,fun i hi d=>(k.block i (Ld hi h.size) d).trans (h.block i hi d)⟩
theorem nF.drew {B:Nat}{a w:World}(h:nF B a w):nF B a w.drew:=⟨h.os,h.tape,h.output,h.size,h.block⟩
theorem nF.alloc {B:Nat}{a w:World}(h:nF B a w)(o:Obj):nF B a (w.alloc o) :=
 ⟨h.os,h.tape,h.output,by have:=h.size;simp;omega,fun k b c=>(Below.heap_alloc w o k (Ld b h.size)).trans (h.block k b c)⟩
theorem nF.setCell {B:Nat}{a w:World}(h:nF B a w)(i:Nat)(v:Value):nF B a (w.setCell ⟨B,i,none⟩ v) :=
 ⟨h.os,h.tape,h.output,by simp[World.setCell];exact h.size,fun k c b=>(heap_setCell_other w ⟨B,i,none⟩ k v b).trans (h.block k c b)⟩
theorem nF.EU {B:Nat}{a w:World}(h:nF B a w)(p:Addr)(d:a.heap.size<=p.block)(v:Value):nF B a (w.setCell p v) :=
 ⟨h.os,h.tape,h.output,by simp[World.setCell];exact h.size,fun k b c=>(heap_setCell_other w p k v O).trans (h.block k b c)⟩
theorem nF.below {B N:Nat}{w w':World}(h:nF B w w')(a:N<=B)(b:B<w.heap.size):Below N w w' :=
 ⟨h.os,h.tape,h.output,h.size,fun k c=>h.block k O O⟩
theorem nF.of_below {B:Nat}{w w':World}(h:Below w.heap.size w w'):nF B w w' :=
 ⟨h.os,h.tape,h.output,h.size,fun k a _=>h.block k a⟩
theorem nF.other {B C:Nat}{o:Obj}{w w':World}(h:nF B w w')(b:w.heap[C]? =some o)(a:C≠B):w'.heap[C]? =some o:=by
 rw[h.block C (L8.1 b).1 a];exact b
theorem nF.lt {B C:Nat}{w w':World}(h:nF B w w')(a:C<w.heap.size):C<w'.heap.size:=Ld a h.size
end Go.Proofs.YtcmncipikdpnbaaGreatDoor
