import Derived.Laws.Rows
import Derived.Below
namespace Go.Proofs.YtclkcmidhhfdmaaGreatDoor
open Go.RowKit
def cx (f:Nat->Int):Array Value:=Array.ofFn (n:=100) fun i=>.int .i64 (f i)
theorem mt (f:Nat->Int)(i:Nat)(h:i<100):(cx f)[i]? =some (.int .i64 (f i)):=by simp[cx,h]
theorem iB (f g:Nat->Int)(h:∀i,i<100->f i=g i):cx f=cx g:=by
 unfold cx;congr 1;funext i;rw[h i i.2]
theorem tK (f:Nat->Int)(i:Nat)(x:Int):(cx f).setIfInBounds i (.int .i64 x)=cx (fun n=>if n=i then x else f n):=by
 unfold cx
 apply Array.ext
 ·simp
 intro j h1 h2;rw[Array.getElem_setIfInBounds (by simpa using h2)];by_cases e:i=j
 ·simp[e]
 rw[if_neg e];simp;exact fun h=>absurd h.symm e
def eK (k j i:Nat):Int:=if i<10*k then(if 10<=i/\(i%10=8\/i%10=9)then 0 else -1)else if i<10*k+j then -1 else 0
def lW (i:Nat):Nat:=[0,0,1,1,1,2,2,2,3,3,4,4,5,6,7,8].getD i 0
def lX (i:Nat):Nat:=[1,2,3,2,5,4,5,6,5,6,7,6,6,5,7,7].getD i 0
def rh (i:Nat):Nat:=[1,2,3,2,0,3,4,6,4,6,5,7,9,8,9,0].getD i 0
def fY:Nat->Nat->Int
 | 0,n=>eK 10 0 n
 | i+1,n=>if n=lW i*10+lX i then(rh i:Int)else fY i n
theorem vg:∀i,i<16->lW i<10:=by decide
theorem vh:∀i,i<16->lX i<10:=by decide
def cZ (w:World)(f:Nat->Int)(wr:World):Prop:=w.heap.size+2<=wr.heap.size/\wr.heap[w.heap.size]? =some (.cells (cx fun _=>0) 153 (0,0))/\wr.heap[w.heap.size+1]? =some (.cells (cx f) 153 (0,0))/\Below w.heap.size w wr
theorem cZ.cell {w wr:World}{f:Nat->Int}(h:cZ w f wr)(i:Nat)(hi:i<100):wr.cell? ⟨w.heap.size+1,i,none⟩=some (.int .i64 (f i)):=by
 rw[cell_of_row _ _ _ _ _ _ h.2.2.1,mt f i hi]
theorem cZ.frozen {w wr:World}{f:Nat->Int}(h:cZ w f wr)(i:Nat):wr.frozen? ⟨w.heap.size+1,i,none⟩=false:=frozen_of_row _ _ _ _ _ h.2.2.1
theorem cZ.set {w wr:World}{f:Nat->Int}(h:cZ w f wr)(i:Nat)(x:Int)(g:Nat->Int)(hg:∀n,n<100->g n=if n=i then x else f n):cZ w g (wr.setCell ⟨w.heap.size+1,i,none⟩ (.int .i64 x)):=by
 refine⟨?_,?_,?_,h.2.2.2.setCell (by simp) _⟩
 ·have:=h.1;simp[World.setCell];omega
 ·rw[heap_setCell_other _ _ _ _ (by simp)];exact h.2.1
 rw[heap_setCell_same _ _ _ _ _ _ h.2.2.1,tK,iB _ _ hg]
theorem cZ.congr {w wr:World}{f g:Nat->Int}(h:cZ w f wr)(hg:∀n,n<100->g n=f n):cZ w g wr :=
 ⟨h.1,h.2.1,by rw[iB _ _ hg];exact h.2.2.1,h.2.2.2⟩
theorem cZ.alloc {w wr:World}{f:Nat->Int}(h:cZ w f wr)(o:Obj):cZ w f (wr.alloc o) :=
 ⟨by have:=h.1;simp;omega,by(first | rw[heap_alloc_old _ _ _ (by have:=h.1;omega)] | rw[heap_alloc_old _ _ (by have:=h.1;omega)]);exact h.2.1,by(first | rw[heap_alloc_old _ _ _ (by have:=h.1;omega)] | rw[heap_alloc_old _ _ (by have:=h.1;omega)]);exact h.2.2.1,h.2.2.2.alloc (by have:=h.1;omega) _⟩
theorem cZ.drew {w wr:World}{f:Nat->Int}(h:cZ w f wr):cZ w f wr.drew:=⟨h.1,h.2.1,h.2.2.1,h.2.2.2.drew⟩
theorem cZ.start (w:World):cZ w (eK 0 0) ((w.alloc (.cells (cx fun _=>0) 153)).alloc (.cells (cx fun _=>0) 153)):=by
 refine⟨by simp,heap_alloc2_old _ _ _,?_,((Below.refl _ _).alloc (Nat.le_refl _) _).alloc (by simp) _⟩;rw[heap_alloc2_new,iB (eK 0 0) (fun _=>0) (by intro i _;simp[eK])]
theorem cZ.step {w wr:World}{k j:Nat}(h:cZ w (eK k j) wr)(hj:j<10):cZ w (eK k (j+1)) (wr.setCell ⟨w.heap.size+1,k*10+j,none⟩ (.int .i64 (-1))):=by
 refine h.set _ _ _ fun n _=> ?_;unfold eK;split <;> split <;> (try split) <;> (try split) <;> first | rfl | omega
theorem cZ.row0 {w wr:World}(h:cZ w (eK 0 10) wr):cZ w (eK 1 0) wr:=by
 refine h.congr fun n _=> ?_;unfold eK;split <;> split <;> (try split) <;> (try split) <;> first | rfl | omega
theorem cZ.rowk {w wr:World}{k:Nat}(h:cZ w (eK k 10) wr)(hk:0<k):cZ w (eK (k+1) 0) ((wr.setCell ⟨w.heap.size+1,k*10+8,none⟩ (.int .i64 0)).setCell ⟨w.heap.size+1,k*10+9,none⟩ (.int .i64 0)):=by
 refine(h.set _ _ (fun n=>if n=k*10+8 then 0 else eK k 10 n) fun _ _=>rfl).set _ _ _ fun n _=> ?_;unfold eK;by_cases h1:n=k*10+9
 ·rw[if_pos h1,if_pos (by omega),if_pos (by omega)]
 rw[if_neg h1];by_cases h2:n=k*10+8
 ·rw[if_pos h2,if_pos (by omega),if_pos (by omega)]
 rw[if_neg h2];by_cases h3:n<10*k
 ·rw[if_pos (by omega),if_pos h3]
 rw[if_neg h3];by_cases h4:n<10*(k+1)
 ·rw[if_pos h4,if_neg (by omega),if_pos (by omega)]
 rw[if_neg h4,if_neg (by omega),if_neg (by omega)]
theorem cZ.trip {w wr:World}{i:Nat}(h:cZ w (fY i) wr):cZ w (fY (i+1)) (wr.setCell ⟨w.heap.size+1,lW i*10+lX i,none⟩ (.int .i64 (rh i))) :=
 h.set _ _ _ fun _ _=>rfl
theorem jX {B:Nat}{a w:World}(h:Below B a w)(g:Nat)(cs:Array Value)(hg:B<=g):Below B a (w.setRow g cs) :=
 ⟨h.os,h.tape,h.output,by simp;exact h.size,fun k hk=>(setRow_other w g k cs (by omega)).trans (h.block k hk)⟩
end Go.Proofs.YtclkcmidhhfdmaaGreatDoor
