import Derived.Test.YtcmncipikdpnbaaGreatDoorUc
import Derived.Laws.Rows
import Derived.Below
namespace Go.Proofs.YtcmncipikdpnbaaGreatDoor
open Go.RowKit
def dN (f:Nat->Int):Array Value:=Array.ofFn (n:=100) fun i=>.int .i64 (f i)
theorem oL (f:Nat->Int)(i:Nat)(h:i<100):(dN f)[i]? =some (f i:Y):=by simp[dN,h]
theorem i5 (f g:Nat->Int)(h:∀i,i<100->f i=g i):dN f=dN g:=by
 unfold dN;congr 1;funext i;rw[h i i.2]
theorem vY (f:Nat->Int)(i:Nat)(x:Int):(dN f).setIfInBounds i x=dN (fun n=>if n=i then x else f n):=by
 unfold dN
 apply Array.ext
 ·simp
 intro j h1 h2;rw[Array.getElem_setIfInBounds Jw];by_cases e:i=j
 ·simp[e]
 rw[L5 e];simp;exact fun h=>absurd h.symm e
def eY (k j i:Nat):Int:=if i<10*k then(if 10<=i/\(i%10=8\/i%10=9)then 0 else -1)else if i<10*k+j then -1 else 0
def ma (i:Nat):Nat:=[0,0,1,1,1,2,2,2,3,3,4,4,5,6,7,8].getD i 0
def mc (i:Nat):Nat:=[1,2,3,2,5,4,5,6,5,6,7,6,6,5,7,7].getD i 0
def uG (i:Nat):Nat:=[1,2,3,2,0,3,4,6,4,6,5,7,9,8,9,0].getD i 0
def gM:Nat->Nat->Int
 | 0,n=>eY 10 0 n
 | i+1,n=>if n=ma i*10+mc i then(uG i:Int)else gM i n
theorem yN:∀i,i<16->ma i<10:=by decide
theorem yO:∀i,i<16->mc i<10:=by decide
def cp (w:World)(f:Nat->Int)(wr:World):Prop:=w.heap.size+2<=wr.heap.size/\wr.heap[w.heap.size]? =some (.cells (dN fun _=>0) 145 (0,0))/\wr.heap[w.heap.size+1]? =some (.cells (dN f) 145 (0,0))/\Below w.heap.size w wr
theorem cp.cell {w wr:World}{f:Nat->Int}(h:cp w f wr)(i:Nat)(hi:i<100):wr.cell? ⟨w.heap.size+1,i,none⟩=some (f i:Y):=by
 rw[cell_of_row _ _ _ _ _ _ h.2.2.1,oL f i hi]
theorem cp.frozen {w wr:World}{f:Nat->Int}(h:cp w f wr)(i:Nat):wr.frozen? ⟨w.heap.size+1,i,none⟩=false:=frozen_of_row _ _ _ _ _ h.2.2.1
theorem cp.set {w wr:World}{f:Nat->Int}(h:cp w f wr)(i:Nat)(x:Int)(g:Nat->Int)(a:∀n,n<100->g n=if n=i then x else f n):cp w g (wr.setCell ⟨w.heap.size+1,i,none⟩ x):=by
 refine⟨?_,?_,?_,h.2.2.2.setCell FE _⟩
 ·have:=h.1;simp[World.setCell];omega
 ·rw[heap_setCell_other _ _ _ _ FE];exact h.2.1
 rw[heap_setCell_same _ _ _ _ _ _ h.2.2.1,vY,i5 _ _ a]
theorem cp.congr {w wr:World}{f g:Nat->Int}(h:cp w f wr)(a:∀n,n<100->g n=f n):cp w g wr :=
 ⟨h.1,h.2.1,by rw[i5 _ _ a];exact h.2.2.1,h.2.2.2⟩
theorem cp.alloc {w wr:World}{f:Nat->Int}(h:cp w f wr)(o:Obj):cp w f (wr.alloc o) :=
 ⟨by have:=h.1;simp;omega,by(first | rw[heap_alloc_old _ _ _ Jy] | rw[heap_alloc_old _ _ Jy]);exact h.2.1,by(first | rw[heap_alloc_old _ _ _ Jy] | rw[heap_alloc_old _ _ Jy]);exact h.2.2.1,h.2.2.2.alloc Jy _⟩
theorem cp.drew {w wr:World}{f:Nat->Int}(h:cp w f wr):cp w f wr.drew:=⟨h.1,h.2.1,h.2.2.1,h.2.2.2.drew⟩
theorem cp.start (w:World):cp w (eY 0 0) ((w.alloc (.cells (dN fun _=>0) 145)).alloc (.cells (dN fun _=>0) 145)):=by
 refine⟨FE,heap_alloc2_old _ _ _,?_,((Below.refl _ _).alloc (L4 _) _).alloc FE _⟩;rw[heap_alloc2_new,i5 (eY 0 0) (fun _=>0) (by intro i _;simp[eY])]
theorem cp.step {w wr:World}{k j:Nat}(h:cp w (eY k j) wr)(a:j<10):cp w (eY k (j+1)) (wr.setCell ⟨w.heap.size+1,k*10+j,none⟩ (-1:Int)):=by
 refine h.set _ _ _ fun n _=> ?_;unfold eY;split <;> split <;> (try split) <;> (try split) <;> first | rfl | omega
theorem cp.row0 {w wr:World}(h:cp w (eY 0 10) wr):cp w (eY 1 0) wr:=by
 refine h.congr fun n _=> ?_;unfold eY;split <;> split <;> (try split) <;> (try split) <;> first | rfl | omega
theorem cp.Hp {w wr:World}{k:Nat}(h:cp w (eY k 10) wr)(c:0<k):cp w (eY (k+1) 0) ((wr.setCell ⟨w.heap.size+1,k*10+8,none⟩ (0:Int)).setCell ⟨w.heap.size+1,k*10+9,none⟩ (0:Int)):=by
 refine(h.set _ _ (fun n=>if n=k*10+8 then 0 else eY k 10 n) fun _ _=>rfl).set _ _ _ fun n _=> ?_;unfold eY;by_cases h1:n=k*10+9
 ·rw[L7 h1,L7 O,L7 O]
 rw[L5 h1];by_cases h2:n=k*10+8
 ·rw[L7 h2,L7 O,L7 O]
 rw[L5 h2];by_cases a:n<10*k
 ·rw[L7 O,L7 a]
 rw[L5 a];by_cases b:n<10*(k+1)
 ·rw[L7 b,L5 O,L7 O]
 rw[L5 b,L5 O,L5 O]
theorem cp.trip {w wr:World}{i:Nat}(h:cp w (gM i) wr):cp w (gM (i+1)) (wr.setCell ⟨w.heap.size+1,ma i*10+mc i,none⟩ (uG i:Int)) :=
 h.set _ _ _ fun _ _=>rfl
theorem jq {B:Nat}{a w:World}(h:Below B a w)(g:Nat)(cs:Array Value)(c:B<=g):Below B a (w.setRow g cs) :=
 ⟨h.os,h.tape,h.output,by simp;exact h.size,fun k b=>(setRow_other w g k cs O).trans (h.block k b)⟩
end Go.Proofs.YtcmncipikdpnbaaGreatDoor
