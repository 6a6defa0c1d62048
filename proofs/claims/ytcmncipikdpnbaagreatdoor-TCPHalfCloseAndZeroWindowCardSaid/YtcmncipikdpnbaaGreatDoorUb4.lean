import Derived.Test.YtcmncipikdpnbaaGreatDoorUc
import Derived.WalkKit
import Derived.Laws.Rows
namespace Go.Proofs.YtcmncipikdpnbaaGreatDoor
open Go.RowKit
structure lh (B:Nat)(w w':World):Prop where
 os:w'.os=w.os
 tape:w'.tape=w.tape
 output:w'.output=w.output
 size:w.heap.size<=w'.heap.size
 block:∀k,k<w.heap.size->k≠B->w'.heap[k]? =w.heap[k]?
theorem lh.refl (B:Nat)(w:World):lh B w w:=⟨Z,Z,Z,L4 _,fun _ _ _=>rfl⟩
theorem lh.trans {B:Nat}{a b c:World}(h:lh B a b)(k:lh B b c):lh B a c :=
 ⟨k.os.trans h.os,k.tape.trans h.tape,k.output.trans h.output,L8 h.size k.size,fun i hi d=>(k.block i (Lb hi h.size) d).trans (h.block i hi d)⟩
theorem lh.drew {B:Nat}{a w:World}(h:lh B a w):lh B a w.drew:=⟨h.os,h.tape,h.output,h.size,h.block⟩
theorem lh.alloc {B:Nat}{a w:World}(h:lh B a w)(o:Obj):lh B a (w.alloc o) :=
 ⟨h.os,h.tape,h.output,by have:=h.size;simp;omega,fun k b c=>(Below.heap_alloc w o k (Lb b h.size)).trans (h.block k b c)⟩
theorem lh.setCell {B:Nat}{a w:World}(h:lh B a w)(i:Nat)(v:Value):lh B a (w.setCell ⟨B,i,none⟩ v) :=
 ⟨h.os,h.tape,h.output,by simp[World.setCell];exact h.size,fun k c b=>(heap_setCell_other w ⟨B,i,none⟩ k v b).trans (h.block k c b)⟩
theorem lh.ED {B:Nat}{a w:World}(h:lh B a w)(p:Addr)(d:a.heap.size<=p.block)(v:Value):lh B a (w.setCell p v) :=
 ⟨h.os,h.tape,h.output,by simp[World.setCell];exact h.size,fun k b c=>(heap_setCell_other w p k v O).trans (h.block k b c)⟩
theorem lh.below {B N:Nat}{w w':World}(h:lh B w w')(a:N<=B)(b:B<w.heap.size):Below N w w' :=
 ⟨h.os,h.tape,h.output,h.size,fun k c=>h.block k O O⟩
theorem lh.of_below {B:Nat}{w w':World}(h:Below w.heap.size w w'):lh B w w' :=
 ⟨h.os,h.tape,h.output,h.size,fun k a _=>h.block k a⟩
theorem lh.lt {B C:Nat}{w w':World}(h:lh B w w')(a:C<w.heap.size):C<w'.heap.size:=Lb a h.size
end Go.Proofs.YtcmncipikdpnbaaGreatDoor
