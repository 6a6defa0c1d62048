import Derived.Test.YtcmncipikdpnbaaGreatDoorUc
import Derived.WalkKit
import Derived.ProofKit
import Derived.OpenShut
import Derived.Laws.Rows
namespace Go.Proofs.YtcmncipikdpnbaaGreatDoor
open Go.ChangeShapes Go.WideShapes Go.ChangeAt Go.RowKit
def B3 (B:Nat)(vs:Array Value)(w:World):Prop:=∃t a,w.heap[B]? =some (.cells vs t a)
theorem B3.below {B:Nat}{vs:Array Value}{w w':World}(h:B3 B vs w)(b:Below w.heap.size w w'):B3 B vs w':=by
 obtain⟨t,c,a⟩:=h;exact⟨t,c,by rw[b.block _ (L6.1 a).1];exact a⟩
theorem B3.alloc {B:Nat}{vs:Array Value}{w:World}(h:B3 B vs w)(o:Obj):B3 B vs (w.alloc o):=h.below ((Below.refl _ _).alloc (L4 _) _)
theorem B3.cell {B:Nat}{vs:Array Value}{w:World}(h:B3 B vs w)(i:Nat)(v:Value)(hi:vs[i]? =some v):w.cell? ⟨B,i,none⟩=some v:=by
 obtain⟨t,b,a⟩:=h;rw[cell_of_row _ _ _ _ _ _ a,hi]
def mX (k:IntKind)(w:World)(a:Option Addr)(len cap:Nat)(b:List Int):Prop :=
 (a=none/\len=0/\cap=0/\b=[]) \/
 ∃x,a=some x/\len<=cap/\cap<=maxLen/\b.length=cap/\(∀i,i<b.length->w.cell? (x.add i)=some (.int k (b.getD i 0)))/\∀n∈b,(Lit.int k n).wf=true
theorem mX.at {k:IntKind}{w:World}{a:Option Addr}{len cap:Nat}{d:List Int}(h:mX k w a len cap d)(j:0<len) :
  ∃b off,a=some ⟨b,off,none⟩/\len<=maxLen/\b<w.heap.size/\∀i,i<len->w.cell? ⟨b,off+i,none⟩=some (.int k (d.getD i 0))/\(Lit.int k (d.getD i 0)).wf=true:=by
 rcases h with⟨_,h,_⟩ | ⟨x,rfl,h1,h2,l,f,g⟩
 ·omega
 obtain⟨b,off,rfl,e⟩:=ints_at f O;have c:∀i,i<len->i<d.length:=fun i hi=>by omega
 refine⟨b,off,Z,O,?_,fun i hi=>⟨e i (c i hi),g _ ?_⟩⟩
 ·exact block_lt_of_cell (e 0 O)
 rw[List.getD_eq_getElem?_getD,Na (c i hi)];simp
end Go.Proofs.YtcmncipikdpnbaaGreatDoor
