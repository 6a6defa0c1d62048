import Derived.Laws.Rows
import Derived.Below
namespace Go.Proofs.YtclkcmidhhfdmaaGreatDoor
open Go.RowKit
def tabOf (f:Nat->Int):Array Value:=Array.ofFn (n:=100) fun i=>.int .i64 (f i)
theorem tabOf_get (f:Nat->Int)(i:Nat)(h:i<100):(tabOf f)[i]? =some (.int .i64 (f i)):=by simp[tabOf,h]
theorem tabOf_congr (f g:Nat->Int)(h:∀i,i<100->f i=g i):tabOf f=tabOf g:=by
 unfold tabOf;congr 1;funext i;rw[h i i.2]
theorem tabOf_set (f:Nat->Int)(i:Nat)(x:Int):(tabOf f).setIfInBounds i (.int .i64 x)=tabOf (fun n=>if n=i then x else f n):=by
 unfold tabOf
 apply Array.ext
 ·simp
 intro j h1 h2;rw[Array.getElem_setIfInBounds (by simpa using h2)];by_cases e:i=j
 ·simp[e]
 rw[if_neg e];simp;exact fun h=>absurd h.symm e
def fillV (k j i:Nat):Int:=if i<10*k then(if 10<=i/\(i%10=8\/i%10=9)then 0 else -1)else if i<10*k+j then -1 else 0
def tripA (i:Nat):Nat:=[0,0,1,1,1,2,2,2,3,3,4,4,5,6,7,8].getD i 0
def tripB (i:Nat):Nat:=[1,2,3,2,5,4,5,6,5,6,7,6,6,5,7,7].getD i 0
def tripC (i:Nat):Nat:=[1,2,3,2,0,3,4,6,4,6,5,7,9,8,9,0].getD i 0
def tripV:Nat->Nat->Int
 | 0,n=>fillV 10 0 n
 | i+1,n=>if n=tripA i*10+tripB i then(tripC i:Int)else tripV i n
theorem tripA_lt:∀i,i<16->tripA i<10:=by decide
theorem tripB_lt:∀i,i<16->tripB i<10:=by decide
def RelT (w:World)(f:Nat->Int)(wr:World):Prop:=w.heap.size+2<=wr.heap.size/\wr.heap[w.heap.size]? =some (.cells (tabOf fun _=>0) 153 (0,0))/\wr.heap[w.heap.size+1]? =some (.cells (tabOf f) 153 (0,0))/\Below w.heap.size w wr
theorem RelT.cell {w wr:World}{f:Nat->Int}(h:RelT w f wr)(i:Nat)(hi:i<100):wr.cell? ⟨w.heap.size+1,i,none⟩=some (.int .i64 (f i)):=by
 rw[cell_of_row _ _ _ _ _ _ h.2.2.1,tabOf_get f i hi]
theorem RelT.frozen {w wr:World}{f:Nat->Int}(h:RelT w f wr)(i:Nat):wr.frozen? ⟨w.heap.size+1,i,none⟩=false:=frozen_of_row _ _ _ _ _ h.2.2.1
theorem RelT.set {w wr:World}{f:Nat->Int}(h:RelT w f wr)(i:Nat)(x:Int)(g:Nat->Int)(hg:∀n,n<100->g n=if n=i then x else f n):RelT w g (wr.setCell ⟨w.heap.size+1,i,none⟩ (.int .i64 x)):=by
 refine⟨?_,?_,?_,h.2.2.2.setCell (by simp) _⟩
 ·have:=h.1;simp[World.setCell];omega
 ·rw[heap_setCell_other _ _ _ _ (by simp)];exact h.2.1
 rw[heap_setCell_same _ _ _ _ _ _ h.2.2.1,tabOf_set,tabOf_congr _ _ hg]
theorem RelT.congr {w wr:World}{f g:Nat->Int}(h:RelT w f wr)(hg:∀n,n<100->g n=f n):RelT w g wr :=
 ⟨h.1,h.2.1,by rw[tabOf_congr _ _ hg];exact h.2.2.1,h.2.2.2⟩
theorem RelT.alloc {w wr:World}{f:Nat->Int}(h:RelT w f wr)(o:Obj):RelT w f (wr.alloc o) :=
 ⟨by have:=h.1;simp;omega,by(first | rw[heap_alloc_old _ _ _ (by have:=h.1;omega)] | rw[heap_alloc_old _ _ (by have:=h.1;omega)]);exact h.2.1,by(first | rw[heap_alloc_old _ _ _ (by have:=h.1;omega)] | rw[heap_alloc_old _ _ (by have:=h.1;omega)]);exact h.2.2.1,h.2.2.2.alloc (by have:=h.1;omega) _⟩
theorem RelT.drew {w wr:World}{f:Nat->Int}(h:RelT w f wr):RelT w f wr.drew:=⟨h.1,h.2.1,h.2.2.1,h.2.2.2.drew⟩
theorem RelT.start (w:World):RelT w (fillV 0 0) ((w.alloc (.cells (tabOf fun _=>0) 153)).alloc (.cells (tabOf fun _=>0) 153)):=by
 refine⟨by simp,heap_alloc2_old _ _ _,?_,((Below.refl _ _).alloc (Nat.le_refl _) _).alloc (by simp) _⟩;rw[heap_alloc2_new,tabOf_congr (fillV 0 0) (fun _=>0) (by intro i _;simp[fillV])]
theorem RelT.step {w wr:World}{k j:Nat}(h:RelT w (fillV k j) wr)(hj:j<10):RelT w (fillV k (j+1)) (wr.setCell ⟨w.heap.size+1,k*10+j,none⟩ (.int .i64 (-1))):=by
 refine h.set _ _ _ fun n _=> ?_;unfold fillV;split <;> split <;> (try split) <;> (try split) <;> first | rfl | omega
theorem RelT.row0 {w wr:World}(h:RelT w (fillV 0 10) wr):RelT w (fillV 1 0) wr:=by
 refine h.congr fun n _=> ?_;unfold fillV;split <;> split <;> (try split) <;> (try split) <;> first | rfl | omega
theorem RelT.rowk {w wr:World}{k:Nat}(h:RelT w (fillV k 10) wr)(hk:0<k):RelT w (fillV (k+1) 0) ((wr.setCell ⟨w.heap.size+1,k*10+8,none⟩ (.int .i64 0)).setCell ⟨w.heap.size+1,k*10+9,none⟩ (.int .i64 0)):=by
 refine(h.set _ _ (fun n=>if n=k*10+8 then 0 else fillV k 10 n) fun _ _=>rfl).set _ _ _ fun n _=> ?_;unfold fillV;by_cases h1:n=k*10+9
 ·rw[if_pos h1,if_pos (by omega),if_pos (by omega)]
 rw[if_neg h1];by_cases h2:n=k*10+8
 ·rw[if_pos h2,if_pos (by omega),if_pos (by omega)]
 rw[if_neg h2];by_cases h3:n<10*k
 ·rw[if_pos (by omega),if_pos h3]
 rw[if_neg h3];by_cases h4:n<10*(k+1)
 ·rw[if_pos h4,if_neg (by omega),if_pos (by omega)]
 rw[if_neg h4,if_neg (by omega),if_neg (by omega)]
theorem RelT.trip {w wr:World}{i:Nat}(h:RelT w (tripV i) wr):RelT w (tripV (i+1)) (wr.setCell ⟨w.heap.size+1,tripA i*10+tripB i,none⟩ (.int .i64 (tripC i))) :=
 h.set _ _ _ fun _ _=>rfl
theorem below_setRow {B:Nat}{a w:World}(h:Below B a w)(g:Nat)(cs:Array Value)(hg:B<=g):Below B a (w.setRow g cs) :=
 ⟨h.os,h.tape,h.output,by simp;exact h.size,fun k hk=>(setRow_other w g k cs (by omega)).trans (h.block k hk)⟩
end Go.Proofs.YtclkcmidhhfdmaaGreatDoor
