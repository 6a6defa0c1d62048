import Derived.Test.YtclkcmidhhfdmaaGreatDoorUc
import Derived.Laws.Rows
import Derived.Below
namespace Go.Proofs.YtclkcmidhhfdmaaGreatDoor
open Go.RowKit
def ce (f:Nat->Int):Array Value:=Array.ofFn (n:=100) fun i=>.int .i64 (f i)
theorem lX (f:Nat->Int)(i:Nat)(h:i<100):(ce f)[i]? =some (f i:Y):=by simp[ce,h]
theorem gJ (f g:Nat->Int)(h:∀i,i<100->f i=g i):ce f=ce g:=by
 unfold ce;congr 1;funext i;rw[h i i.2]
theorem qw (f:Nat->Int)(i:Nat)(x:Int):(ce f).setIfInBounds i x=ce (fun n=>if n=i then x else f n):=by
 unfold ce
 apply Array.ext
 ·simp
 intro j h1 h2;rw[Array.getElem_setIfInBounds (by simpa using h2)];by_cases e:i=j
 ·simp[e]
 rw[if_neg e];simp;exact fun h=>absurd h.symm e
def dm (k j i:Nat):Int:=if i<10*k then(if 10<=i/\(i%10=8\/i%10=9)then 0 else -1)else if i<10*k+j then -1 else 0
def kI (i:Nat):Nat:=[0,0,1,1,1,2,2,2,3,3,4,4,5,6,7,8].getD i 0
def kJ (i:Nat):Nat:=[1,2,3,2,5,4,5,6,5,6,7,6,6,5,7,7].getD i 0
def pm (i:Nat):Nat:=[1,2,3,2,0,3,4,6,4,6,5,7,9,8,9,0].getD i 0
def fD:Nat->Nat->Int
 | 0,n=>dm 10 0 n
 | i+1,n=>if n=kI i*10+kJ i then(pm i:Int)else fD i n
theorem tM:∀i,i<16->kI i<10:=by decide
theorem tN:∀i,i<16->kJ i<10:=by decide
def cI (w:World)(f:Nat->Int)(wr:World):Prop:=w.heap.size+2<=wr.heap.size/\wr.heap[w.heap.size]? =some (.cells (ce fun _=>0) 153 (0,0))/\wr.heap[w.heap.size+1]? =some (.cells (ce f) 153 (0,0))/\Below w.heap.size w wr
theorem cI.cell {w wr:World}{f:Nat->Int}(h:cI w f wr)(i:Nat)(hi:i<100):wr.cell? ⟨w.heap.size+1,i,none⟩=some (f i:Y):=by
 rw[cell_of_row _ _ _ _ _ _ h.2.2.1,lX f i hi]
theorem cI.frozen {w wr:World}{f:Nat->Int}(h:cI w f wr)(i:Nat):wr.frozen? ⟨w.heap.size+1,i,none⟩=false:=frozen_of_row _ _ _ _ _ h.2.2.1
theorem cI.set {w wr:World}{f:Nat->Int}(h:cI w f wr)(i:Nat)(x:Int)(g:Nat->Int)(hg:∀n,n<100->g n=if n=i then x else f n):cI w g (wr.setCell ⟨w.heap.size+1,i,none⟩ x):=by
 refine⟨?_,?_,?_,h.2.2.2.setCell (by simp) _⟩
 ·have:=h.1;simp[World.setCell];omega
 ·rw[heap_setCell_other _ _ _ _ (by simp)];exact h.2.1
 rw[heap_setCell_same _ _ _ _ _ _ h.2.2.1,qw,gJ _ _ hg]
theorem cI.congr {w wr:World}{f g:Nat->Int}(h:cI w f wr)(hg:∀n,n<100->g n=f n):cI w g wr :=
 ⟨h.1,h.2.1,by rw[gJ _ _ hg];exact h.2.2.1,h.2.2.2⟩
theorem cI.alloc {w wr:World}{f:Nat->Int}(h:cI w f wr)(o:Obj):cI w f (wr.alloc o) :=
 ⟨by have:=h.1;simp;omega,by(first | rw[heap_alloc_old _ _ _ (by have:=h.1;omega)] | rw[heap_alloc_old _ _ (by have:=h.1;omega)]);exact h.2.1,by(first | rw[heap_alloc_old _ _ _ (by have:=h.1;omega)] | rw[heap_alloc_old _ _ (by have:=h.1;omega)]);exact h.2.2.1,h.2.2.2.alloc (by have:=h.1;omega) _⟩
theorem cI.drew {w wr:World}{f:Nat->Int}(h:cI w f wr):cI w f wr.drew:=⟨h.1,h.2.1,h.2.2.1,h.2.2.2.drew⟩
theorem cI.start (w:World):cI w (dm 0 0) ((w.alloc (.cells (ce fun _=>0) 153)).alloc (.cells (ce fun _=>0) 153)):=by
 refine⟨by simp,heap_alloc2_old _ _ _,?_,((Below.refl _ _).alloc (Nat.le_refl _) _).alloc (by simp) _⟩;rw[heap_alloc2_new,gJ (dm 0 0) (fun _=>0) (by intro i _;simp[dm])]
theorem cI.step {w wr:World}{k j:Nat}(h:cI w (dm k j) wr)(hj:j<10):cI w (dm k (j+1)) (wr.setCell ⟨w.heap.size+1,k*10+j,none⟩ (-1:Int)):=by
 refine h.set _ _ _ fun n _=> ?_;unfold dm;split <;> split <;> (try split) <;> (try split) <;> first | rfl | omega
theorem cI.row0 {w wr:World}(h:cI w (dm 0 10) wr):cI w (dm 1 0) wr:=by
 refine h.congr fun n _=> ?_;unfold dm;split <;> split <;> (try split) <;> (try split) <;> first | rfl | omega
theorem cI.rowk {w wr:World}{k:Nat}(h:cI w (dm k 10) wr)(hk:0<k):cI w (dm (k+1) 0) ((wr.setCell ⟨w.heap.size+1,k*10+8,none⟩ (0:Int)).setCell ⟨w.heap.size+1,k*10+9,none⟩ (0:Int)):=by
 refine(h.set _ _ (fun n=>if n=k*10+8 then 0 else dm k 10 n) fun _ _=>rfl).set _ _ _ fun n _=> ?_;unfold dm;by_cases h1:n=k*10+9
 ·rw[if_pos h1,if_pos (by omega),if_pos (by omega)]
 rw[if_neg h1];by_cases h2:n=k*10+8
 ·rw[if_pos h2,if_pos (by omega),if_pos (by omega)]
 rw[if_neg h2];by_cases h3:n<10*k
 ·rw[if_pos (by omega),if_pos h3]
 rw[if_neg h3];by_cases h4:n<10*(k+1)
 ·rw[if_pos h4,if_neg (by omega),if_pos (by omega)]
 rw[if_neg h4,if_neg (by omega),if_neg (by omega)]
theorem cI.trip {w wr:World}{i:Nat}(h:cI w (fD i) wr):cI w (fD (i+1)) (wr.setCell ⟨w.heap.size+1,kI i*10+kJ i,none⟩ (pm i:Int)) :=
 h.set _ _ _ fun _ _=>rfl
theorem i9 {B:Nat}{a w:World}(h:Below B a w)(g:Nat)(cs:Array Value)(hg:B<=g):Below B a (w.setRow g cs) :=
 ⟨h.os,h.tape,h.output,by simp;exact h.size,fun k hk=>(setRow_other w g k cs (by omega)).trans (h.block k hk)⟩
end Go.Proofs.YtclkcmidhhfdmaaGreatDoor
