import Derived.Test.YtclkcmidhhfdmaaGreatDoorUb6
import Derived.Test.YtclkcmidhhfdmaaGreatDoorUb13
import Derived.Laws.EntriesVeiled
namespace Go.Proofs.YtclkcmidhhfdmaaGreatDoor
open Lib (hid)
section
set_option maxRecDepth 100000
open Go.RowKit Go.Shelf
theorem iE (W:World) (X B:Nat) (nw:Int) (x:Sp) (hX:W.cell? X=some (B:Y)) (hN:W.cell? ⟨B,4,none⟩=some (nw:Y)) :
  Calls Tryz.prog 179 #[.agg #[x.1,x.2],X] W fun e w'=>e= .returned (bP nw x)/\w'=(W.alloc (.cells #[x.1,x.2] 92)).drew:=by
 obtain⟨x1,x2⟩:=x;have ag:=block_lt_of_cell hX;have hBl:=block_lt_of_cell hN;have al:=(Below.refl W.heap.size W).alloc (Nat.le_refl _) (.cells #[x1,x2] 92);have q1:=(al.cell (p:=⟨X,0,none⟩) ag).trans hX;have q2:=(al.cell (p:=⟨B,4,none⟩) hBl).trans hN;have HX:=hid hX;clear al hX hN;by_cases h1:x1<=nw
 ·go_enter Tryz.func179,Tryz.ntmps179
  go_wp2_with fail;have z0:(W.alloc (.cells #[x1,x2] 92)).cell? W.heap.size=some (x1:Y):=by simp
  have z1:(W.alloc (.cells #[x1,x2] 92)).cell? ⟨W.heap.size,1,none⟩=some (x2:Y):=by simp
  refine bC (fun w':World=>w'.cell? X=some (B:Y)/\w'.cell? ⟨B,4,none⟩=some (nw:Y)/\w'.cell? W.heap.size=some (x1:Y)/\w'.cell? ⟨W.heap.size,1,none⟩=some (x2:Y)) (⟨q1,q2,z0,z1⟩) fun hZ=>?_;refine aB 0 1 2 3 ?_;refine aB 4 5 6 7 ?_;refine aB 8 9 10 11 ?_;refine aB 12 13 14 15 ?_;refine aO 16 ?_;refine az ?_ _;go_wp2;go_ret;refine⟨?_,rfl⟩;show Ending.returned (Value.bool (decide (nw<x2)))=_
  congr 2
  unfold bP
  apply Bool.eq_iff_iff.2
  rw[decide_eq_true_iff,decide_eq_true_iff];exact⟨fun h=>⟨h1,h⟩,fun h=>h.2⟩
 have h2:nw<x1:=by omega
 go_enter Tryz.func179,Tryz.ntmps179
 go_wp2_with fail;have z0:(W.alloc (.cells #[x1,x2] 92)).cell? W.heap.size=some (x1:Y):=by simp
 have z1:(W.alloc (.cells #[x1,x2] 92)).cell? ⟨W.heap.size,1,none⟩=some (x2:Y):=by simp
 refine bC (fun w':World=>w'.cell? X=some (B:Y)/\w'.cell? ⟨B,4,none⟩=some (nw:Y)/\w'.cell? W.heap.size=some (x1:Y)/\w'.cell? ⟨W.heap.size,1,none⟩=some (x2:Y)) (⟨q1,q2,z0,z1⟩) fun hZ=>?_;refine aB 0 1 2 3 ?_;refine aK 4 5 ?_;refine aO 6 (v:=.bool false) ?_ (hy:=by intro w hSw;go_simp;(try (rw[decide_eq_false_iff_not];omega)));refine aO 7 ?_;refine aV 8 ?_;refine aV 9 ?_;refine aV 10 ?_;refine aV 11 ?_;refine aV 12 ?_;refine aV 13 ?_;refine aV 14 ?_;refine aK 15 16 ?_;refine az ?_ _;go_wp2;go_ret;refine⟨?_,rfl⟩;show Ending.returned (Value.bool false)=_
 congr 2
 unfold bP;rw[eq_comm,decide_eq_false_iff_not];dsimp only;omega
def uZ (nw:Int)(x y:Sp):Int:=if bP nw x=bP nw y then je y.1 x.1 else if bP nw x=true then -1 else 1
set_option maxHeartbeats 1000000 in
theorem nZ (W:World) (Fb X B:Nat) (nw:Int) (x y:Sp) (hF:W.cell? Fb=some (.func (.func 179) #[] #[X])) (hX:W.cell? X=some (B:Y)) (hN:W.cell? ⟨B,4,none⟩=some (nw:Y)) :
  Calls Tryz.prog 182 #[.agg #[x.1,x.2],.agg #[y.1,y.2],Fb] W fun e w'=>e= .returned (uZ nw x y)/\fw W w':=by
 obtain⟨x1,x2⟩:=x;obtain⟨y1,y2⟩:=y;obtain⟨W2,hW2⟩:∃W2,W2=(W.alloc (.cells #[x1,x2] 92)).alloc (.cells #[y1,y2] 92):=⟨_,rfl⟩;have hb2:Below W.heap.size W W2:=by rw[hW2];exact((Below.refl _ W).alloc (Nat.le_refl _) _).alloc (by simp) _
 have hg2:fw W W2:=by rw[hW2];exact((fw.refl W).alloc _).alloc _
 have hs2:W2.heap.size=W.heap.size+1+1:=by rw[hW2];simp
 have a0:W2.cell? W.heap.size=some (x1:Y):=by rw[hW2];simp
 have a1:W2.cell? ⟨W.heap.size,1,none⟩=some (x2:Y):=by rw[hW2];simp
 have b0:W2.cell? ⟨W.heap.size+1,0,none⟩=some (y1:Y):=by rw[hW2];simp
 have b1:W2.cell? ⟨W.heap.size+1,1,none⟩=some (y2:Y):=by rw[hW2];simp
 have f0:=(hb2.cell (p:=⟨Fb,0,none⟩) (block_lt_of_cell hF)).trans hF;have x0:=(hb2.cell (p:=⟨X,0,none⟩) (block_lt_of_cell hX)).trans hX;have n0:=(hb2.cell (p:=⟨B,4,none⟩) (block_lt_of_cell hN)).trans hN
 have HK:=hid (fun(w':World) (h:Below W2.heap.size W2 w')=>show(w'.cell? Fb=some (.func (.func 179) #[] #[X])/\w'.cell? X=some (B:Y)/\w'.cell? ⟨B,4,none⟩=some (nw:Y))/\w'.cell? W.heap.size=some (x1:Y)/\w'.cell? ⟨W.heap.size,1,none⟩=some (x2:Y)/\w'.cell? ⟨W.heap.size+1,0,none⟩=some (y1:Y)/\w'.cell? ⟨W.heap.size+1,1,none⟩=some (y2:Y)from
  ⟨⟨(h.cell (p:=⟨Fb,0,none⟩) (block_lt_of_cell f0)).trans f0,(h.cell (p:=⟨X,0,none⟩) (block_lt_of_cell x0)).trans x0,(h.cell (p:=⟨B,4,none⟩) (block_lt_of_cell n0)).trans n0⟩,(h.cell (p:=⟨W.heap.size,0,none⟩) (block_lt_of_cell a0)).trans a0,(h.cell (p:=⟨W.heap.size,1,none⟩) (block_lt_of_cell a1)).trans a1,(h.cell (p:=⟨W.heap.size+1,0,none⟩) (block_lt_of_cell b0)).trans b0,(h.cell (p:=⟨W.heap.size+1,1,none⟩) (block_lt_of_cell b1)).trans b1⟩)
 have a9:=hid hW2;have HG2:=hid hg2;clear hb2 hg2 hF hX hN f0 x0 n0 a0 a1 b0 b1 hW2
 go_enter Tryz.func182,Tryz.ntmps182
 go_wp2_with fail;rw[<-a9.o];refine wp_mono (Q:=jt (fun a' w'=>a'={ tmps:= #[.agg #[x1,x2],.agg #[y1,y2],Fb,W.heap.size,.pointer (some ⟨W.heap.size+1,0,none⟩),(0:Int),(bP nw (x1,x2)==bP nw (y1,y2)),.func (.func 179) #[] #[X],.agg #[x1,x2],(bP nw (x1,x2)),.func (.func 179) #[] #[X],.agg #[y1,y2],(bP nw (y1,y2)),(bP nw (x1,x2)==bP nw (y1,y2)),undef,undef,undef,undef,undef,undef,undef,undef,undef],defers:=[] }/\Below W2.heap.size W2 w'/\fw W w')) ?_ (jT ?_)
 ·refine bC (fun w':World=>(w'.cell? Fb=some (.func (.func 179) #[] #[X])/\w'.cell? X=some (B:Y)/\w'.cell? ⟨B,4,none⟩=some (nw:Y))/\w'.cell? W.heap.size=some (x1:Y)/\w'.cell? ⟨W.heap.size,1,none⟩=some (x2:Y)/\w'.cell? ⟨W.heap.size+1,0,none⟩=some (y1:Y)/\w'.cell? ⟨W.heap.size+1,1,none⟩=some (y2:Y)) (HK.o _ (Below.refl _ W2).drew) fun hZ=>?_;refine aO 0 ?_ (hy:=by intro w hSw;(obtain⟨⟨g0,g1,g2⟩,g3,g4,g5,g6⟩:=hSw);go_simp;(try with_reducible rfl));refine aO 1 ?_ (hy:=by intro w hSw;(obtain⟨⟨g0,g1,g2⟩,g3,g4,g5,g6⟩:=hSw);go_simp;(try with_reducible rfl));refine aO 3 ?_ (hy:=by intro w hSw;(obtain⟨⟨g0,g1,g2⟩,g3,g4,g5,g6⟩:=hSw);go_simp;(try with_reducible rfl));refine aO 4 ?_ (hy:=by intro w hSw;(obtain⟨⟨g0,g1,g2⟩,g3,g4,g5,g6⟩:=hSw);go_simp;(try with_reducible rfl));refine aX 2 fun Kq hKq=> ?_;go_simp;refine(iE _ X B nw (x1,x2) hZ.1.2.1 hZ.1.2.2).mono ?_;rintro e w1⟨rfl,hw1⟩;have hb1:Below W2.heap.size W2 w1:=by rw[hw1];exact(((Below.refl _ W2).drew).alloc (Nat.le_refl _) _).drew
  have hg1:fw W w1:=by rw[hw1];exact((HG2.drew).alloc _).drew
  clear hw1;go_simp;refine hKq.out _ _ (HK.o _ hb1) ?_;clear hKq Kq hZ;refine fun hZ=>aT ?_;refine aX 5 fun Kq hKq=> ?_;go_simp;refine(iE _ X B nw (y1,y2) hZ.1.2.1 hZ.1.2.2).mono ?_;rintro e w2⟨rfl,hw2⟩;have hb2:Below W2.heap.size W2 w2:=by rw[hw2];exact(hb1.alloc hb1.size _).drew
  have hg2:fw W w2:=by rw[hw2];exact(hg1.alloc _).drew
  clear hw2 hb1 hg1;go_simp;refine hKq.out _ _ (HK.o _ hb2) ?_;clear hKq Kq hZ;refine fun hZ=>aT ?_;refine aO 6 ?_ (hy:=by intro w hSw;(obtain⟨⟨g0,g1,g2⟩,g3,g4,g5,g6⟩:=hSw);go_simp;(try with_reducible rfl));refine aO 7 ?_ (hy:=by intro w hSw;(obtain⟨⟨g0,g1,g2⟩,g3,g4,g5,g6⟩:=hSw);go_simp;(try with_reducible rfl));refine az ?_ _;exact⟨rfl,hb2,hg2⟩
 rintro a' w3⟨rfl,hb3,hg3⟩;obtain⟨⟨c0,c1,c2⟩,c3,c4,c5,c6⟩:=HK.o _ hb3;have a2:=hid hg3;have hs3:=hb3.size;have HD:=hid (show uZ nw (x1,x2) (y1,y2)=if bP nw (x1,x2)=bP nw (y1,y2)then je y1 x1 else if bP nw (x1,x2)=true then -1 else 1 from rfl);have aF:=hid (iE w3 X B nw (x1,x2) c1 c2);clear hb3 hg3 HK HG2 a9;generalize bP nw (x1,x2)=nx at HD aF|-;generalize bP nw (y1,y2)=ny at HD|-
 cases nx <;> cases ny
 ·go_wp2_with fail;refine(mJ _ _ _).mono ?_;rintro e w4⟨rfl,rfl⟩;go_wp2;go_ret;refine⟨?_,a2.o⟩;rw[HD.o];rfl
 ·go_wp2_with fail;refine aF.mono ?_;rintro e w4⟨rfl,hw4⟩;have a4:=hid (show fw W w4 by rw[hw4];exact(a2.alloc _).drew);clear hw4 aF;go_wp2;go_ret;refine⟨?_,a4.o⟩;rw[HD.o];rfl
 ·go_wp2_with fail;refine aF.mono ?_;rintro e w4⟨rfl,hw4⟩;have a4:=hid (show fw W w4 by rw[hw4];exact(a2.alloc _).drew);clear hw4 aF;go_wp2;go_ret;refine⟨?_,a4.o⟩;rw[HD.o];rfl
 go_wp2_with fail;refine(mJ _ _ _).mono ?_;rintro e w4⟨rfl,rfl⟩;go_wp2;go_ret;refine⟨?_,a2.o⟩;rw[HD.o];rfl
end
section
open Go.Sort
theorem ib (nw:Int)(x y:Sp):ltOf (uZ nw) x y=true↔(bP nw x=bP nw y/\y.1<x.1)\/(bP nw x=true/\bP nw y=false):=by
 unfold ltOf;rw[decide_eq_true_iff];unfold uZ je
 cases bP nw x <;> cases bP nw y <;> simp <;> (repeat' split) <;> omega
theorem xk (nw:Int):SWO (ltOf (uZ nw)) where
 irrefl x:=by
  rw[<-Bool.not_eq_true,ib];rintro (h | h)
  ·omega
  ·rw[h.1]at h;cases h.2
 trans x y z h1 h2:=by
  rw[ib]at *
  revert h1 h2
  cases bP nw x <;> cases bP nw y <;> cases bP nw z <;> simp <;> omega
 ntrans x y z h1 h2:=by
  rw[<-Bool.not_eq_true,ib]at *
  revert h1 h2
  cases bP nw x <;> cases bP nw y <;> cases bP nw z <;> simp <;> omega
theorem gK {α:Type}{R:α->α->Prop}:∀{l1 l2:List α},l1.Perm l2->l1.Pairwise R->l2.Pairwise (fun x y=>¬R y x)->l1=l2
 | [],l2,hp,_,_=>(List.nil_perm.1 hp).symm
 | a::t1,[],hp,_,_=>by have:=hp.length_eq;simp at this
 | a::t1,b::t2,hp,h1,h2=>by
  rw[List.pairwise_cons]at h1 h2
  have key:a=b:=by
   have hb:b∈a::t1:=hp.mem_iff.2 (by simp);have ha:a∈b::t2:=hp.mem_iff.1 (by simp)
   rcases List.mem_cons.1 hb with e | hb
   ·exact e.symm
   ·rcases List.mem_cons.1 ha with e | ha
    ·exact e
    ·exact(h2.1 a ha (h1.1 b hb)).elim
  subst key;rw[gK ((List.perm_cons a).1 hp) h1.2 h2.2]
theorem jf {e:Int}{bl:List Sp}(h:aH e bl=true):bl.Pairwise (fun x y=>x.1<x.2/\x.2<y.1)/\∀x∈bl,e<x.1:=by
 induction bl generalizing e with
 | nil=>exact⟨List.Pairwise.nil,fun x hx=>by cases hx⟩
 | cons x t ih =>
  rw[aA]at h;obtain⟨i1,i2⟩:=ih h.2;refine⟨List.pairwise_cons.2 ⟨fun y hy=>⟨h.1.2.2.1,i2 y hy⟩,i1⟩,fun y hy=> ?_⟩
  rcases List.mem_cons.1 hy with rfl | hy
  ·exact h.1.2.1
  have:=i2 y hy;omega
theorem kz (nw:Int){e:Int}{bl:List Sp}(h:aH e bl=true):(dh nw bl).Pairwise (fun x y=>ltOf (uZ nw) x y=true):=by
 have hp:=(jf h).1;unfold dh;rw[List.pairwise_append];refine⟨?_,?_,fun x hx y hy=> ?_⟩
 ·refine List.Pairwise.imp_of_mem (fun {x y} hx hy hxy=> ?_) (hp.filter (bP nw));have e1:=(List.mem_filter.1 hx).2;have e2:=(List.mem_filter.1 hy).2;unfold bP at e1 e2;rw[decide_eq_true_iff]at e1 e2;omega
 ·rw[List.pairwise_reverse];refine List.Pairwise.imp_of_mem (fun {x y} hx hy hxy=> ?_) (hp.filter _);have e1:=(List.mem_filter.1 hx).2;have e2:=(List.mem_filter.1 hy).2;rw[ib];rw[Bool.not_eq_true']at e1 e2;rw[e1,e2];exact .inl ⟨rfl,by omega⟩
 rw[ib];have e1:=(List.mem_filter.1 hx).2;have e2:=(List.mem_filter.1 (List.mem_reverse.1 hy)).2;rw[Bool.not_eq_true']at e2;exact .inr ⟨e1,e2⟩
theorem mN (nw:Int){bl:List Sp}(h:ae bl=true)(d':Array Sp)(hp:PermIn 0 bl.length bl.toArray d')(hs:SortedIn (ltOf (uZ nw)) 0 bl.length d'):d'=(dh nw bl).toArray:=by
 obtain⟨p1,p2,p3⟩:=hp;have p1:d'.size=bl.length:=by rw[p1,List.size_toArray]
 have e1:d'.extract 0 bl.length=d':=by rw[<-p1];simp
 have e2:bl.toArray.extract 0 bl.length=bl.toArray:=by rw[<-List.size_toArray];simp
 rw[e1,e2]at p3
 have key:dh nw bl=d'.toList:=by
  refine gK (R:=fun x y=>ltOf (uZ nw) x y=true) ((gA nw bl).trans p3.symm) (kz nw h) ?_;rw[List.pairwise_iff_getElem];intro i j hi hj hij;have hi':i<d'.size:=by simpa using hi
  have hj':j<d'.size:=by simpa using hj
  have:=hs i j (Nat.zero_le _) hij (by omega);rw[getElem!_pos d' i hi',getElem!_pos d' j hj']at this;rw[Array.getElem_toList,Array.getElem_toList,this];exact Bool.false_ne_true
 rw[key]
end
end Go.Proofs.YtclkcmidhhfdmaaGreatDoor

namespace Go.Proofs.YtclkcmidhhfdmaaGreatDoor
open Lib (hid)
section
open Go.RowKit Go.Shelf Go.Sort
theorem tT (nw:Int)(g cap:Nat)(L:List Sp)(Fb X B:Nat)(w:World)(hc:ae L=true)(hlen:L.length<=1099511627776)
  (hH:HoldsK eG 2 w g 0 L.toArray)(hg:g<w.heap.size)
  (hF:w.cell? Fb=some (.func (.func 179) #[] #[X]))(hX:w.cell? X=some (B:Y))(hN:w.cell? ⟨B,4,none⟩=some (nw:Y))
  (h1:Fb≠g)(h2:X≠g)(h3:B≠g) :
  Calls Tryz.prog 181 #[.slice (some ⟨g,0,none⟩) L.length cap,.func (.func 182) #[] #[Fb]] w fun e w' =>
   e= .returned (.tuple #[])/\SpAt w' w'.heap.size (some ⟨g,0,none⟩) (dh nw L)/\∀N,N<=g->N<=w.heap.size->RowKit.Below N w w':=by
 have eg:∀args w,(callFunc 182 args).run Tryz.prog w= .ok (.enter 182 args) w:=enters_of Tryz.func182 (by kernel_rfl) rfl
 have a5:CmpLays Tryz.prog 182 #[Fb] eG 2 (uZ nw) g 0 L.toArray.size w:=by
  intro m os dk hdk x y;exact nZ _ Fb X B nw x y (jG hF h1) (jG hX h2) (jG hN h3)
 have hcon:=AnyQ.slices_SortFunc ot 2 pj tF eG (fun _=>rfl) (fun x v hv=>by simp[eG]at hv;rcases hv with rfl | rfl <;> rfl) (uZ nw) (xk nw) 182 #[Fb] g 0 cap L.toArray w eg a5 hH hg (by rw[List.size_toArray];omega);refine Calls.mono (show Calls Tryz.prog 181 _ w _ from hcon) ?_;rintro e w' ⟨he,d',n,os,hp,hs,rfl⟩;have hd:d'=(dh nw L).toArray:=mN nw hc d' (by rw[List.size_toArray]at hp;exact hp) (by rw[List.size_toArray]at hs;exact hs);refine⟨he,⟨by rw[ef];exact hlen,fun hl=>⟨g,0,rfl,?_,fun i hi=> ?_⟩⟩,fun N a b=>fX a b⟩
 ·have:=(fX (N:=0) (g:=g) (off:=0) (n:=n) (w:=w) (d:=d') (os:=os) (Nat.zero_le _) (Nat.zero_le _)).size;omega
 have hK:HoldsK eG 2 (sortWorldK eG 2 w g 0 n d' os) g 0 d':=by
  unfold sortWorldK;refine holdsK_grow _ _ _ _ _ _ _ (by unfold putRowK;rw[size_putRow];exact hg) (holdsK_putRowK _ _ _ _ _ _ _ (holdsK_ahead _ _ _ n _ _ _ hH) ?_);rw[hd,List.size_toArray,List.size_toArray,ef]
 have hi':i<d'.size:=by rw[hd,List.size_toArray];exact hi
 have e:d'[i]! =(dh nw L)[i]:=by rw[getElem!_pos d' i hi'];simp only[hd,List.getElem_toArray]
 have c0:=(HoldsK.cell hK hi' (c:=0) (by omega)).1;have c1:=(HoldsK.cell hK hi' (c:=1) (by omega)).1;rw[e]at c0 c1;exact⟨c0,c1⟩
end
section
set_option maxRecDepth 100000
open Go.RowKit Go.Shelf
theorem SpAt.take {w:World}{n₀:Nat}{a:Option Addr}{L:List Sp}(h:SpAt w n₀ a L)(k:Nat):SpAt w n₀ a (L.take k):=by
 refine⟨by have:=h.small;rw[List.length_take];omega,fun hl=> ?_⟩;rw[List.length_take]at hl;obtain⟨b,off,ha,hb,hc⟩:=h.cells (by omega);refine⟨b,off,ha,hb,fun i hi=> ?_⟩;rw[List.length_take]at hi;rw[List.getElem_take];exact hc i (by omega)
def wU (w:World)(L:List Sp)(e:Ending)(w':World):Prop :=
 ∃a cap,e= .returned (.slice a L.length cap)/\SpAt w' w'.heap.size a L/\L.length<=cap/\(∀ad,a=some ad->w.heap.size<=ad.block/\ad=⟨ad.block,ad.off,none⟩)/\Below w.heap.size w w'
theorem iF (B R lb:Nat) (b:Bx) (w:World) (h:a8 B R lb b w) (ok:b.Ok) :
  Calls Tryz.prog 146 #[B] w (wU w b.rep):=by
 obtain⟨a,cap,-,-,-,⟨c3,-⟩,⟨c4,-⟩,hsp,hcap,hap⟩:=h.ats;have hBl:=h.lt.1;have ak:=hid hsp;have am:=hid ok.canon
 have hcl:∀w',Below w.heap.size w w'->Calls Tryz.prog 180 #[.slice a b.bl.length cap] w' fun e w''=>∃v,e= .returned v/\aG w'' w'.heap.size v b.bl/\Below w'.heap.size w' w'':=by
  intro w' hb';have a6:=(hsp.below hb').mono hb'.size
  cases a with
  | none =>
   have hl:b.bl=[]:=by
    rcases Nat.eq_zero_or_pos b.bl.length with e | e
    ·exact List.eq_nil_of_length_eq_zero e
    obtain⟨bb,off,e,_⟩:=hsp.cells e;cases e
   rw[hl];refine(lQ cap w').mono ?_;rintro e w'' ⟨he,rfl⟩;exact⟨_,he,aG.nil _ _,Below.refl _ _⟩
  | some ad =>
   have:=hap.1 ad rfl;obtain⟨blk,off,p⟩:=ad
   cases this
   exact kG blk off cap b.bl w' a6
 have aa:=hid hcl;have av:=hid hap;clear hsp hap hcl h ok
 go_enter Tryz.func146,Tryz.ntmps146
 go_wp2_with fail;obtain⟨W2,hW2⟩:∃W2,W2=(w.alloc (.cells #[B] 98)).alloc (.cells #[.func (.func 179) #[] #[w.heap.size]] 189):=⟨_,rfl⟩;have hb2:Below w.heap.size w W2:=by rw[hW2];exact((Below.refl _ w).alloc (Nat.le_refl _) _).alloc (by simp) _
 have hs2:W2.heap.size=w.heap.size+1+1:=by rw[hW2];simp
 have hX:W2.cell? w.heap.size=some (B:Y):=by rw[hW2];simp
 have hF:W2.cell? ⟨w.heap.size+1,0,none⟩=some (.func (.func 179) #[] #[w.heap.size]):=by rw[hW2];simp
 have hN:=(hb2.cell (p:=⟨B,4,none⟩) hBl).trans c4;rw[<-hW2];have a3:=hid hb2;clear hW2 c3 c4;refine(aa.o _ hb2).mono ?_;clear hb2;rintro e w1⟨v,rfl,hown,hb1⟩;have gX:=(hb1.cell (p:=⟨w.heap.size,0,none⟩) (by simp;omega)).trans hX;have gF:=(hb1.cell (p:=⟨w.heap.size+1,0,none⟩) (by simp;omega)).trans hF;have gN:=(hb1.cell (p:=⟨B,4,none⟩) (by simp;omega)).trans hN;have a7:=hid (a3.trans (hb1.mono (by omega)));have hs1:=hb1.size;clear hX hF hN hb1 a3 aa
 rcases aG.cases hown with⟨rfl,hl⟩ | ⟨g,cap',rfl,hg1,hg2,hg3,hg4⟩
 ·have HL:=hid hl;clear hown hl;go_wp2_with fail;refine(lR _ _ _ _).mono ?_;rintro e w2⟨rfl,rfl⟩;go_wp2;go_ret;have er:b.rep=[]:=by unfold Bx.rep dh;rw[HL.o];rfl
  exact⟨none,0,by rw[er];rfl,by rw[er];exact⟨by simp,fun hl=>by simp at hl⟩,by rw[er];simp,fun ad e=>(by cases e),a7.o⟩
 obtain⟨hH,-⟩:=hown.holds;have hsm:=ak.small;have ab:=hid (tT b.nw g cap' b.bl (w.heap.size+1) w.heap.size B w1 am.o hsm hH hg2 gF gX gN (by omega) (by omega) (by omega));obtain⟨k,hk⟩:∃k,k=b.bl.length:=⟨_,rfl⟩;have HK:=hid hk;clear hH hown gX gF gN;rw[<-hk]at hg3 hcap hsm|-;clear hk;go_wp2_with fail;rw[HK.o];refine ab.mono ?_;rintro e w2⟨rfl,hsp2,hb2⟩;rw[<-HK.o];have an:=hid hsp2;have a3:=hid (a7.trans (hb2 w.heap.size (by omega) (by omega)));have HR:=hid (show b.rep=(dh b.nw b.bl).take 3 from rfl);have ac:=hid (show b.rep.length=min k 3 by rw[HK.o];exact Bx.rep_length b);clear hsp2 hb2 ab a7;go_wp2;go_ret;refine⟨some ⟨g,0,none⟩,cap',?_,?_,by rw[ac.o];omega,fun ad e=>(by cases e;exact⟨by show w.heap.size<=g;omega,rfl⟩),a3.o⟩
 ·show Ending.returned (Value.slice (some ⟨g,0,none⟩) (min (k:Int) 3).toNat cap')=_;rw[ac.o,show(min (k:Int) 3).toNat=min k 3 by omega]
 rw[HR.o];exact an.take 3
end
end Go.Proofs.YtclkcmidhhfdmaaGreatDoor
