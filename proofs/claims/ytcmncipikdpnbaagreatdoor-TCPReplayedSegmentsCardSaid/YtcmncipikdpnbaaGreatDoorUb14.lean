import Derived.Test.YtcmncipikdpnbaaGreatDoorUc
import Derived.Laws.Rows
import Derived.Below
namespace Go.Proofs.YtcmncipikdpnbaaGreatDoor
open Go.RowKit
def dK (f:Nat->Int):Array Value:=Array.ofFn (n:=100) fun i=>.int .i64 (f i)
theorem np (f:Nat->Int)(i:Nat)(h:i<100):(dK f)[i]? =some (f i:Y):=by simp[dK,h]
theorem iV (f g:Nat->Int)(h:∀i,i<100->f i=g i):dK f=dK g:=by
 unfold dK;congr 1;funext i;rw[h i i.2]
theorem ur (f:Nat->Int)(i:Nat)(x:Int):(dK f).setIfInBounds i x=dK (fun n=>if n=i then x else f n):=by
 unfold dK
 apply Array.ext
 ·simp
 intro j h1 h2;rw[Array.getElem_setIfInBounds JA];by_cases e:i=j
 ·simp[e]
 rw[L7 e];simp;exact fun h=>absurd h.symm e
def eV (k j i:Nat):Int:=if i<10*k then(if 10<=i/\(i%10=8\/i%10=9)then 0 else -1)else if i<10*k+j then -1 else 0
def mM (i:Nat):Nat:=[0,0,1,1,1,2,2,2,3,3,4,4,5,6,7,8].getD i 0
def mN (i:Nat):Nat:=[1,2,3,2,5,4,5,6,5,6,7,6,6,5,7,7].getD i 0
def tR (i:Nat):Nat:=[1,2,3,2,0,3,4,6,4,6,5,7,9,8,9,0].getD i 0
def gD:Nat->Nat->Int
 | 0,n=>eV 10 0 n
 | i+1,n=>if n=mM i*10+mN i then(tR i:Int)else gD i n
theorem xT:∀i,i<16->mM i<10:=by decide
theorem xU:∀i,i<16->mN i<10:=by decide
def cp (w:World)(f:Nat->Int)(wr:World):Prop:=w.heap.size+2<=wr.heap.size/\wr.heap[w.heap.size]? =some (.cells (dK fun _=>0) 145 (0,0))/\wr.heap[w.heap.size+1]? =some (.cells (dK f) 145 (0,0))/\Below w.heap.size w wr
theorem cp.cell {w wr:World}{f:Nat->Int}(h:cp w f wr)(i:Nat)(hi:i<100):wr.cell? ⟨w.heap.size+1,i,none⟩=some (f i:Y):=by
 rw[cell_of_row _ _ _ _ _ _ h.2.2.1,np f i hi]
theorem cp.frozen {w wr:World}{f:Nat->Int}(h:cp w f wr)(i:Nat):wr.frozen? ⟨w.heap.size+1,i,none⟩=false:=frozen_of_row _ _ _ _ _ h.2.2.1
theorem cp.set {w wr:World}{f:Nat->Int}(h:cp w f wr)(i:Nat)(x:Int)(g:Nat->Int)(a:∀n,n<100->g n=if n=i then x else f n):cp w g (wr.setCell ⟨w.heap.size+1,i,none⟩ x):=by
 refine⟨?_,?_,?_,h.2.2.2.setCell IK _⟩
 ·have:=h.1;simp[World.setCell];omega
 ·rw[heap_setCell_other _ _ _ _ IK];exact h.2.1
 rw[heap_setCell_same _ _ _ _ _ _ h.2.2.1,ur,iV _ _ a]
theorem cp.congr {w wr:World}{f g:Nat->Int}(h:cp w f wr)(a:∀n,n<100->g n=f n):cp w g wr :=
 ⟨h.1,h.2.1,by rw[iV _ _ a];exact h.2.2.1,h.2.2.2⟩
theorem cp.alloc {w wr:World}{f:Nat->Int}(h:cp w f wr)(o:Obj):cp w f (wr.alloc o) :=
 ⟨by have:=h.1;simp;omega,by(first | rw[heap_alloc_old _ _ _ JB] | rw[heap_alloc_old _ _ JB]);exact h.2.1,by(first | rw[heap_alloc_old _ _ _ JB] | rw[heap_alloc_old _ _ JB]);exact h.2.2.1,h.2.2.2.alloc JB _⟩
theorem cp.drew {w wr:World}{f:Nat->Int}(h:cp w f wr):cp w f wr.drew:=⟨h.1,h.2.1,h.2.2.1,h.2.2.2.drew⟩
theorem cp.start (w:World):cp w (eV 0 0) ((w.alloc (.cells (dK fun _=>0) 145)).alloc (.cells (dK fun _=>0) 145)):=by
 refine⟨IK,heap_alloc2_old _ _ _,?_,((Below.refl _ _).alloc (L6 _) _).alloc IK _⟩;rw[heap_alloc2_new,iV (eV 0 0) (fun _=>0) (by intro i _;simp[eV])]
theorem cp.step {w wr:World}{k j:Nat}(h:cp w (eV k j) wr)(a:j<10):cp w (eV k (j+1)) (wr.setCell ⟨w.heap.size+1,k*10+j,none⟩ (-1:Int)):=by
 refine h.set _ _ _ fun n _=> ?_;unfold eV;split <;> split <;> (try split) <;> (try split) <;> first | rfl | omega
theorem cp.row0 {w wr:World}(h:cp w (eV 0 10) wr):cp w (eV 1 0) wr:=by
 refine h.congr fun n _=> ?_;unfold eV;split <;> split <;> (try split) <;> (try split) <;> first | rfl | omega
theorem cp.HU {w wr:World}{k:Nat}(h:cp w (eV k 10) wr)(c:0<k):cp w (eV (k+1) 0) ((wr.setCell ⟨w.heap.size+1,k*10+8,none⟩ (0:Int)).setCell ⟨w.heap.size+1,k*10+9,none⟩ (0:Int)):=by
 refine(h.set _ _ (fun n=>if n=k*10+8 then 0 else eV k 10 n) fun _ _=>rfl).set _ _ _ fun n _=> ?_;unfold eV;by_cases h1:n=k*10+9
 ·rw[L9 h1,L9 O,L9 O]
 rw[L7 h1];by_cases h2:n=k*10+8
 ·rw[L9 h2,L9 O,L9 O]
 rw[L7 h2];by_cases a:n<10*k
 ·rw[L9 O,L9 a]
 rw[L7 a];by_cases b:n<10*(k+1)
 ·rw[L9 b,L7 O,L9 O]
 rw[L7 b,L7 O,L7 O]
theorem cp.trip {w wr:World}{i:Nat}(h:cp w (gD i) wr):cp w (gD (i+1)) (wr.setCell ⟨w.heap.size+1,mM i*10+mN i,none⟩ (tR i:Int)) :=
 h.set _ _ _ fun _ _=>rfl
theorem jg {B:Nat}{a w:World}(h:Below B a w)(g:Nat)(cs:Array Value)(c:B<=g):Below B a (w.setRow g cs) :=
 ⟨h.os,h.tape,h.output,by simp;exact h.size,fun k b=>(setRow_other w g k cs O).trans (h.block k b)⟩
end Go.Proofs.YtcmncipikdpnbaaGreatDoor
