import Derived.WalkKit
import Derived.ProofKit
import Derived.OpenShut
import Derived.Laws.Rows
namespace Go.Proofs.YtclkcmidhhfdmaaGreatDoor
open Go.ChangeShapes Go.WideShapes Go.ChangeAt Go.RowKit
def uY (B:Nat)(vs:Array Value)(w:World):Prop:=∃t fr,w.heap[B]? =some (.cells vs t fr)
theorem uY.below {B:Nat}{vs:Array Value}{w w':World}(h:uY B vs w)(hb:Below w.heap.size w w'):uY B vs w':=by
 obtain⟨t,fr,ht⟩:=h;exact⟨t,fr,by rw[hb.block _ (Array.getElem?_eq_some_iff.1 ht).1];exact ht⟩
theorem uY.alloc {B:Nat}{vs:Array Value}{w:World}(h:uY B vs w)(o:Obj):uY B vs (w.alloc o):=h.below ((Below.refl _ _).alloc (Nat.le_refl _) _)
theorem uY.new {B:Nat}{vs:Array Value}{w:World}{t:TypeId}(h:B=w.heap.size):uY B vs (w.alloc (.cells vs t)):=by subst h;exact⟨t,_,heap_alloc_new _ _⟩
theorem uY.cell {B:Nat}{vs:Array Value}{w:World}(h:uY B vs w)(i:Nat)(v:Value)(hi:vs[i]? =some v):w.cell? ⟨B,i,none⟩=some v:=by
 obtain⟨t,fr,ht⟩:=h;rw[cell_of_row _ _ _ _ _ _ ht,hi]
def lV (k:IntKind)(w:World)(a:Option Addr)(len cap:Nat)(zs:List Int):Prop :=
 (a=none/\len=0/\cap=0/\zs=[]) \/
 ∃x,a=some x/\len<=cap/\cap<=maxLen/\zs.length=cap/\(∀i,i<zs.length->w.cell? (x.add i)=some (.int k (zs.getD i 0)))/\∀n∈zs,(Lit.int k n).wf=true
theorem lV.at {k:IntKind}{w:World}{a:Option Addr}{len cap:Nat}{zs:List Int}(h:lV k w a len cap zs)(hp:0<len) :
  ∃b off,a=some ⟨b,off,none⟩/\len<=maxLen/\b<w.heap.size/\∀i,i<len->w.cell? ⟨b,off+i,none⟩=some (.int k (zs.getD i 0))/\(Lit.int k (zs.getD i 0)).wf=true:=by
 rcases h with⟨_,h,_⟩ | ⟨x,rfl,h1,h2,h3,h4,h5⟩
 ·omega
 obtain⟨b,off,rfl,hc⟩:=ints_at h4 (by omega);have hin:∀i,i<len->i<zs.length:=fun i hi=>by omega
 refine⟨b,off,rfl,by omega,?_,fun i hi=>⟨hc i (hin i hi),h5 _ ?_⟩⟩
 ·exact block_lt_of_cell (hc 0 (by omega))
 rw[List.getD_eq_getElem?_getD,List.getElem?_eq_getElem (hin i hi)];simp
end Go.Proofs.YtclkcmidhhfdmaaGreatDoor
