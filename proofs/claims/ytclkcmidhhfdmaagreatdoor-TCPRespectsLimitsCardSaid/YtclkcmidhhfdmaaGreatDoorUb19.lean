import Derived.Test.YtclkcmidhhfdmaaGreatDoorUb6
import Derived.Test.YtclkcmidhhfdmaaGreatDoorUb13
import Derived.Laws.EntriesVeiled
namespace Go.Proofs.YtclkcmidhhfdmaaGreatDoor
open Lib (hid)
section
set_option maxRecDepth 100000
open Go.RowKit Go.Shelf
theorem newest_any (W:World) (X B:Nat) (nw:Int) (x:Sp) (hX:W.cell? ⟨X,0,none⟩=some (.pointer (some ⟨B,0,none⟩))) (hN:W.cell? ⟨B,4,none⟩=some (.int .i64 nw)) :
  Calls Tryz.prog 179 #[.agg #[.int .i64 x.1,.int .i64 x.2],.pointer (some ⟨X,0,none⟩)] W fun e w'=>e= .returned (.bool (isNew nw x))/\w'=(W.alloc (.cells #[.int .i64 x.1,.int .i64 x.2] 92)).drew:=by
 obtain⟨x1,x2⟩:=x;have hXl:=block_lt_of_cell hX;have hBl:=block_lt_of_cell hN;have al:=(Below.refl W.heap.size W).alloc (Nat.le_refl _) (.cells #[.int .i64 x1,.int .i64 x2] 92);have q1:=(al.cell (p:=⟨X,0,none⟩) hXl).trans hX;have q2:=(al.cell (p:=⟨B,4,none⟩) hBl).trans hN;have HX:=hid hX;clear al hX hN;by_cases h1:x1<=nw
 ·go_enter Tryz.func179,Tryz.ntmps179
  go_wp2_with fail;have z0:(W.alloc (.cells #[.int .i64 x1,.int .i64 x2] 92)).cell? ⟨W.heap.size,0,none⟩=some (.int .i64 x1):=by simp
  have z1:(W.alloc (.cells #[.int .i64 x1,.int .i64 x2] 92)).cell? ⟨W.heap.size,1,none⟩=some (.int .i64 x2):=by simp
  refine wpB (fun w':World=>w'.cell? ⟨X,0,none⟩=some (.pointer (some ⟨B,0,none⟩))/\w'.cell? ⟨B,4,none⟩=some (.int .i64 nw)/\w'.cell? ⟨W.heap.size,0,none⟩=some (.int .i64 x1)/\w'.cell? ⟨W.heap.size,1,none⟩=some (.int .i64 x2)) (⟨q1,q2,z0,z1⟩) fun hZ=>?_;refine wpT4 0 1 2 3 ?_;refine wpT4 4 5 6 7 ?_;refine wpT4 8 9 10 11 ?_;refine wpT4 12 13 14 15 ?_;refine wpT 16 ?_;refine wpD ?_ _;go_wp2;go_ret;refine⟨?_,rfl⟩;show Ending.returned (Value.bool (decide (nw<x2)))=_
  congr 2
  unfold isNew
  apply Bool.eq_iff_iff.2
  rw[decide_eq_true_iff,decide_eq_true_iff];exact⟨fun h=>⟨h1,h⟩,fun h=>h.2⟩
 have h2:nw<x1:=by omega
 go_enter Tryz.func179,Tryz.ntmps179
 go_wp2_with fail;have z0:(W.alloc (.cells #[.int .i64 x1,.int .i64 x2] 92)).cell? ⟨W.heap.size,0,none⟩=some (.int .i64 x1):=by simp
 have z1:(W.alloc (.cells #[.int .i64 x1,.int .i64 x2] 92)).cell? ⟨W.heap.size,1,none⟩=some (.int .i64 x2):=by simp
 refine wpB (fun w':World=>w'.cell? ⟨X,0,none⟩=some (.pointer (some ⟨B,0,none⟩))/\w'.cell? ⟨B,4,none⟩=some (.int .i64 nw)/\w'.cell? ⟨W.heap.size,0,none⟩=some (.int .i64 x1)/\w'.cell? ⟨W.heap.size,1,none⟩=some (.int .i64 x2)) (⟨q1,q2,z0,z1⟩) fun hZ=>?_;refine wpT4 0 1 2 3 ?_;refine wpT2 4 5 ?_;refine wpT 6 (v:=.bool false) ?_ (hy:=by intro w hSw;go_simp;(try (rw[decide_eq_false_iff_not];omega)));refine wpT 7 ?_;refine wpK 8 ?_;refine wpK 9 ?_;refine wpK 10 ?_;refine wpK 11 ?_;refine wpK 12 ?_;refine wpK 13 ?_;refine wpK 14 ?_;refine wpT2 15 16 ?_;refine wpD ?_ _;go_wp2;go_ret;refine⟨?_,rfl⟩;show Ending.returned (Value.bool false)=_
 congr 2
 unfold isNew;rw[eq_comm,decide_eq_false_iff_not];dsimp only;omega
def cfB (nw:Int)(x y:Sp):Int:=if isNew nw x=isNew nw y then cmpI y.1 x.1 else if isNew nw x=true then -1 else 1
set_option maxHeartbeats 1000000 in
theorem rbOrder_any (W:World) (Fb X B:Nat) (nw:Int) (x y:Sp) (hF:W.cell? ⟨Fb,0,none⟩=some (.func (.func 179) #[] #[.pointer (some ⟨X,0,none⟩)])) (hX:W.cell? ⟨X,0,none⟩=some (.pointer (some ⟨B,0,none⟩))) (hN:W.cell? ⟨B,4,none⟩=some (.int .i64 nw)) :
  Calls Tryz.prog 182 #[.agg #[.int .i64 x.1,.int .i64 x.2],.agg #[.int .i64 y.1,.int .i64 y.2],.pointer (some ⟨Fb,0,none⟩)] W fun e w'=>e= .returned (.int .i64 (cfB nw x y))/\Grew W w':=by
 obtain⟨x1,x2⟩:=x;obtain⟨y1,y2⟩:=y;obtain⟨W2,hW2⟩:∃W2,W2=(W.alloc (.cells #[.int .i64 x1,.int .i64 x2] 92)).alloc (.cells #[.int .i64 y1,.int .i64 y2] 92):=⟨_,rfl⟩;have hb2:Below W.heap.size W W2:=by rw[hW2];exact((Below.refl _ W).alloc (Nat.le_refl _) _).alloc (by simp) _
 have hg2:Grew W W2:=by rw[hW2];exact((Grew.refl W).alloc _).alloc _
 have hs2:W2.heap.size=W.heap.size+1+1:=by rw[hW2];simp
 have a0:W2.cell? ⟨W.heap.size,0,none⟩=some (.int .i64 x1):=by rw[hW2];simp
 have a1:W2.cell? ⟨W.heap.size,1,none⟩=some (.int .i64 x2):=by rw[hW2];simp
 have b0:W2.cell? ⟨W.heap.size+1,0,none⟩=some (.int .i64 y1):=by rw[hW2];simp
 have b1:W2.cell? ⟨W.heap.size+1,1,none⟩=some (.int .i64 y2):=by rw[hW2];simp
 have f0:=(hb2.cell (p:=⟨Fb,0,none⟩) (block_lt_of_cell hF)).trans hF;have x0:=(hb2.cell (p:=⟨X,0,none⟩) (block_lt_of_cell hX)).trans hX;have n0:=(hb2.cell (p:=⟨B,4,none⟩) (block_lt_of_cell hN)).trans hN
 have HK:=hid (fun(w':World) (h:Below W2.heap.size W2 w')=>show(w'.cell? ⟨Fb,0,none⟩=some (.func (.func 179) #[] #[.pointer (some ⟨X,0,none⟩)])/\w'.cell? ⟨X,0,none⟩=some (.pointer (some ⟨B,0,none⟩))/\w'.cell? ⟨B,4,none⟩=some (.int .i64 nw))/\w'.cell? ⟨W.heap.size,0,none⟩=some (.int .i64 x1)/\w'.cell? ⟨W.heap.size,1,none⟩=some (.int .i64 x2)/\w'.cell? ⟨W.heap.size+1,0,none⟩=some (.int .i64 y1)/\w'.cell? ⟨W.heap.size+1,1,none⟩=some (.int .i64 y2)from
  ⟨⟨(h.cell (p:=⟨Fb,0,none⟩) (block_lt_of_cell f0)).trans f0,(h.cell (p:=⟨X,0,none⟩) (block_lt_of_cell x0)).trans x0,(h.cell (p:=⟨B,4,none⟩) (block_lt_of_cell n0)).trans n0⟩,(h.cell (p:=⟨W.heap.size,0,none⟩) (block_lt_of_cell a0)).trans a0,(h.cell (p:=⟨W.heap.size,1,none⟩) (block_lt_of_cell a1)).trans a1,(h.cell (p:=⟨W.heap.size+1,0,none⟩) (block_lt_of_cell b0)).trans b0,(h.cell (p:=⟨W.heap.size+1,1,none⟩) (block_lt_of_cell b1)).trans b1⟩)
 have HW2:=hid hW2;have HG2:=hid hg2;clear hb2 hg2 hF hX hN f0 x0 n0 a0 a1 b0 b1 hW2
 go_enter Tryz.func182,Tryz.ntmps182
 go_wp2_with fail;rw[<-HW2.o];refine wp_mono (Q:=onNormal (fun a' w'=>a'={ tmps:= #[.agg #[.int .i64 x1,.int .i64 x2],.agg #[.int .i64 y1,.int .i64 y2],.pointer (some ⟨Fb,0,none⟩),.pointer (some ⟨W.heap.size,0,none⟩),.pointer (some ⟨W.heap.size+1,0,none⟩),.int .i64 0,.bool (isNew nw (x1,x2)==isNew nw (y1,y2)),.func (.func 179) #[] #[.pointer (some ⟨X,0,none⟩)],.agg #[.int .i64 x1,.int .i64 x2],.bool (isNew nw (x1,x2)),.func (.func 179) #[] #[.pointer (some ⟨X,0,none⟩)],.agg #[.int .i64 y1,.int .i64 y2],.bool (isNew nw (y1,y2)),.bool (isNew nw (x1,x2)==isNew nw (y1,y2)),undef,undef,undef,undef,undef,undef,undef,undef,undef],defers:=[] }/\Below W2.heap.size W2 w'/\Grew W w')) ?_ (onNormal_le ?_)
 ·refine wpB (fun w':World=>(w'.cell? ⟨Fb,0,none⟩=some (.func (.func 179) #[] #[.pointer (some ⟨X,0,none⟩)])/\w'.cell? ⟨X,0,none⟩=some (.pointer (some ⟨B,0,none⟩))/\w'.cell? ⟨B,4,none⟩=some (.int .i64 nw))/\w'.cell? ⟨W.heap.size,0,none⟩=some (.int .i64 x1)/\w'.cell? ⟨W.heap.size,1,none⟩=some (.int .i64 x2)/\w'.cell? ⟨W.heap.size+1,0,none⟩=some (.int .i64 y1)/\w'.cell? ⟨W.heap.size+1,1,none⟩=some (.int .i64 y2)) (HK.o _ (Below.refl _ W2).drew) fun hZ=>?_;refine wpT 0 ?_ (hy:=by intro w hSw;(obtain⟨⟨g0,g1,g2⟩,g3,g4,g5,g6⟩:=hSw);go_simp;(try with_reducible rfl));refine wpT 1 ?_ (hy:=by intro w hSw;(obtain⟨⟨g0,g1,g2⟩,g3,g4,g5,g6⟩:=hSw);go_simp;(try with_reducible rfl));refine wpT 3 ?_ (hy:=by intro w hSw;(obtain⟨⟨g0,g1,g2⟩,g3,g4,g5,g6⟩:=hSw);go_simp;(try with_reducible rfl));refine wpT 4 ?_ (hy:=by intro w hSw;(obtain⟨⟨g0,g1,g2⟩,g3,g4,g5,g6⟩:=hSw);go_simp;(try with_reducible rfl));refine wpR 2 fun Kq hKq=> ?_;go_simp;refine(newest_any _ X B nw (x1,x2) hZ.1.2.1 hZ.1.2.2).mono ?_;rintro e w1⟨rfl,hw1⟩;have hb1:Below W2.heap.size W2 w1:=by rw[hw1];exact(((Below.refl _ W2).drew).alloc (Nat.le_refl _) _).drew
  have hg1:Grew W w1:=by rw[hw1];exact((HG2.drew).alloc _).drew
  clear hw1;go_simp;refine hKq.out _ _ (HK.o _ hb1) ?_;clear hKq Kq hZ;refine fun hZ=>wpA ?_;refine wpR 5 fun Kq hKq=> ?_;go_simp;refine(newest_any _ X B nw (y1,y2) hZ.1.2.1 hZ.1.2.2).mono ?_;rintro e w2⟨rfl,hw2⟩;have hb2:Below W2.heap.size W2 w2:=by rw[hw2];exact(hb1.alloc hb1.size _).drew
  have hg2:Grew W w2:=by rw[hw2];exact(hg1.alloc _).drew
  clear hw2 hb1 hg1;go_simp;refine hKq.out _ _ (HK.o _ hb2) ?_;clear hKq Kq hZ;refine fun hZ=>wpA ?_;refine wpT 6 ?_ (hy:=by intro w hSw;(obtain⟨⟨g0,g1,g2⟩,g3,g4,g5,g6⟩:=hSw);go_simp;(try with_reducible rfl));refine wpT 7 ?_ (hy:=by intro w hSw;(obtain⟨⟨g0,g1,g2⟩,g3,g4,g5,g6⟩:=hSw);go_simp;(try with_reducible rfl));refine wpD ?_ _;exact⟨rfl,hb2,hg2⟩
 rintro a' w3⟨rfl,hb3,hg3⟩;obtain⟨⟨c0,c1,c2⟩,c3,c4,c5,c6⟩:=HK.o _ hb3;have HG3:=hid hg3;have hs3:=hb3.size;have HD:=hid (show cfB nw (x1,x2) (y1,y2)=if isNew nw (x1,x2)=isNew nw (y1,y2)then cmpI y1 x1 else if isNew nw (x1,x2)=true then -1 else 1 from rfl);have HNA:=hid (newest_any w3 X B nw (x1,x2) c1 c2);clear hb3 hg3 HK HG2 HW2;generalize isNew nw (x1,x2)=nx at HD HNA|-;generalize isNew nw (y1,y2)=ny at HD|-
 cases nx <;> cases ny
 ·go_wp2_with fail;refine(cmp_any _ _ _).mono ?_;rintro e w4⟨rfl,rfl⟩;go_wp2;go_ret;refine⟨?_,HG3.o⟩;rw[HD.o];rfl
 ·go_wp2_with fail;refine HNA.mono ?_;rintro e w4⟨rfl,hw4⟩;have HG4:=hid (show Grew W w4 by rw[hw4];exact(HG3.alloc _).drew);clear hw4 HNA;go_wp2;go_ret;refine⟨?_,HG4.o⟩;rw[HD.o];rfl
 ·go_wp2_with fail;refine HNA.mono ?_;rintro e w4⟨rfl,hw4⟩;have HG4:=hid (show Grew W w4 by rw[hw4];exact(HG3.alloc _).drew);clear hw4 HNA;go_wp2;go_ret;refine⟨?_,HG4.o⟩;rw[HD.o];rfl
 go_wp2_with fail;refine(cmp_any _ _ _).mono ?_;rintro e w4⟨rfl,rfl⟩;go_wp2;go_ret;refine⟨?_,HG3.o⟩;rw[HD.o];rfl
end
section
open Go.Sort
theorem ltB_iff (nw:Int)(x y:Sp):ltOf (cfB nw) x y=true↔(isNew nw x=isNew nw y/\y.1<x.1)\/(isNew nw x=true/\isNew nw y=false):=by
 unfold ltOf;rw[decide_eq_true_iff];unfold cfB cmpI
 cases isNew nw x <;> cases isNew nw y <;> simp <;> (repeat' split) <;> omega
theorem swoB (nw:Int):SWO (ltOf (cfB nw)) where
 irrefl x:=by
  rw[<-Bool.not_eq_true,ltB_iff];rintro (h | h)
  ·omega
  ·rw[h.1]at h;cases h.2
 trans x y z h1 h2:=by
  rw[ltB_iff]at *
  revert h1 h2
  cases isNew nw x <;> cases isNew nw y <;> cases isNew nw z <;> simp <;> omega
 ntrans x y z h1 h2:=by
  rw[<-Bool.not_eq_true,ltB_iff]at *
  revert h1 h2
  cases isNew nw x <;> cases isNew nw y <;> cases isNew nw z <;> simp <;> omega
theorem perm_sorted_eq {α:Type}{R:α->α->Prop}:∀{l1 l2:List α},l1.Perm l2->l1.Pairwise R->l2.Pairwise (fun x y=>¬R y x)->l1=l2
 | [],l2,hp,_,_=>(List.nil_perm.1 hp).symm
 | a::t1,[],hp,_,_=>by have:=hp.length_eq;simp at this
 | a::t1,b::t2,hp,h1,h2=>by
  rw[List.pairwise_cons]at h1 h2
  have key:a=b:=by
   have hb:b∈a::t1:=hp.mem_iff.2 (by simp);have ha:a∈b::t2:=hp.mem_iff.1 (by simp)
   rcases List.mem_cons.1 hb with e | hb
   ·exact e.symm
   ·rcases List.mem_cons.1 ha with e | ha
    ·exact e
    ·exact(h2.1 a ha (h1.1 b hb)).elim
  subst key;rw[perm_sorted_eq ((List.perm_cons a).1 hp) h1.2 h2.2]
theorem canonF_pairwise {e:Int}{bl:List Sp}(h:canonF e bl=true):bl.Pairwise (fun x y=>x.1<x.2/\x.2<y.1)/\∀x∈bl,e<x.1:=by
 induction bl generalizing e with
 | nil=>exact⟨List.Pairwise.nil,fun x hx=>by cases hx⟩
 | cons x t ih =>
  rw[canonF_cons]at h;obtain⟨i1,i2⟩:=ih h.2;refine⟨List.pairwise_cons.2 ⟨fun y hy=>⟨h.1.2.2.1,i2 y hy⟩,i1⟩,fun y hy=> ?_⟩
  rcases List.mem_cons.1 hy with rfl | hy
  ·exact h.1.2.1
  have:=i2 y hy;omega
theorem orderL_sorted (nw:Int){e:Int}{bl:List Sp}(h:canonF e bl=true):(orderL nw bl).Pairwise (fun x y=>ltOf (cfB nw) x y=true):=by
 have hp:=(canonF_pairwise h).1;unfold orderL;rw[List.pairwise_append];refine⟨?_,?_,fun x hx y hy=> ?_⟩
 ·refine List.Pairwise.imp_of_mem (fun {x y} hx hy hxy=> ?_) (hp.filter (isNew nw));have e1:=(List.mem_filter.1 hx).2;have e2:=(List.mem_filter.1 hy).2;unfold isNew at e1 e2;rw[decide_eq_true_iff]at e1 e2;omega
 ·rw[List.pairwise_reverse];refine List.Pairwise.imp_of_mem (fun {x y} hx hy hxy=> ?_) (hp.filter _);have e1:=(List.mem_filter.1 hx).2;have e2:=(List.mem_filter.1 hy).2;rw[ltB_iff];rw[Bool.not_eq_true']at e1 e2;rw[e1,e2];exact .inl ⟨rfl,by omega⟩
 rw[ltB_iff];have e1:=(List.mem_filter.1 hx).2;have e2:=(List.mem_filter.1 (List.mem_reverse.1 hy)).2;rw[Bool.not_eq_true']at e2;exact .inr ⟨e1,e2⟩
theorem order_unique (nw:Int){bl:List Sp}(h:canonB bl=true)(d':Array Sp)(hp:PermIn 0 bl.length bl.toArray d')(hs:SortedIn (ltOf (cfB nw)) 0 bl.length d'):d'=(orderL nw bl).toArray:=by
 obtain⟨p1,p2,p3⟩:=hp;have p1:d'.size=bl.length:=by rw[p1,List.size_toArray]
 have e1:d'.extract 0 bl.length=d':=by rw[<-p1];simp
 have e2:bl.toArray.extract 0 bl.length=bl.toArray:=by rw[<-List.size_toArray];simp
 rw[e1,e2]at p3
 have key:orderL nw bl=d'.toList:=by
  refine perm_sorted_eq (R:=fun x y=>ltOf (cfB nw) x y=true) ((orderL_perm nw bl).trans p3.symm) (orderL_sorted nw h) ?_;rw[List.pairwise_iff_getElem];intro i j hi hj hij;have hi':i<d'.size:=by simpa using hi
  have hj':j<d'.size:=by simpa using hj
  have:=hs i j (Nat.zero_le _) hij (by omega);rw[getElem!_pos d' i hi',getElem!_pos d' j hj']at this;rw[Array.getElem_toList,Array.getElem_toList,this];exact Bool.false_ne_true
 rw[key]
end
end Go.Proofs.YtclkcmidhhfdmaaGreatDoor

namespace Go.Proofs.YtclkcmidhhfdmaaGreatDoor
open Lib (hid)
section
open Go.RowKit Go.Shelf Go.Sort
theorem sort_any (nw:Int)(g cap:Nat)(L:List Sp)(Fb X B:Nat)(w:World)(hc:canonB L=true)(hlen:L.length<=1099511627776)
  (hH:HoldsK encSp 2 w g 0 L.toArray)(hg:g<w.heap.size)
  (hF:w.cell? ⟨Fb,0,none⟩=some (.func (.func 179) #[] #[.pointer (some ⟨X,0,none⟩)]))(hX:w.cell? ⟨X,0,none⟩=some (.pointer (some ⟨B,0,none⟩)))(hN:w.cell? ⟨B,4,none⟩=some (.int .i64 nw))
  (h1:Fb≠g)(h2:X≠g)(h3:B≠g) :
  Calls Tryz.prog 181 #[.slice (some ⟨g,0,none⟩) L.length cap,.func (.func 182) #[] #[.pointer (some ⟨Fb,0,none⟩)]] w fun e w' =>
   e= .returned (.tuple #[])/\SpAt w' w'.heap.size (some ⟨g,0,none⟩) (orderL nw L)/\∀N,N<=g->N<=w.heap.size->RowKit.Below N w w':=by
 have eg:∀args w,(callFunc 182 args).run Tryz.prog w= .ok (.enter 182 args) w:=enters_of Tryz.func182 (by kernel_rfl) rfl
 have hcmp:CmpLays Tryz.prog 182 #[.pointer (some ⟨Fb,0,none⟩)] encSp 2 (cfB nw) g 0 L.toArray.size w:=by
  intro m os dk hdk x y;exact rbOrder_any _ Fb X B nw x y (sort_cell hF h1) (sort_cell hX h2) (sort_cell hN h3)
 have hcon:=AnyQ.slices_SortFunc sortSp 2 isAggSp sizeSp encSp (fun _=>rfl) (fun x v hv=>by simp[encSp]at hv;rcases hv with rfl | rfl <;> rfl) (cfB nw) (swoB nw) 182 #[.pointer (some ⟨Fb,0,none⟩)] g 0 cap L.toArray w eg hcmp hH hg (by rw[List.size_toArray];omega);refine Calls.mono (show Calls Tryz.prog 181 _ w _ from hcon) ?_;rintro e w' ⟨he,d',n,os,hp,hs,rfl⟩;have hd:d'=(orderL nw L).toArray:=order_unique nw hc d' (by rw[List.size_toArray]at hp;exact hp) (by rw[List.size_toArray]at hs;exact hs);refine⟨he,⟨by rw[orderL_length];exact hlen,fun hl=>⟨g,0,rfl,?_,fun i hi=> ?_⟩⟩,fun N a b=>sort_below a b⟩
 ·have:=(sort_below (N:=0) (g:=g) (off:=0) (n:=n) (w:=w) (d:=d') (os:=os) (Nat.zero_le _) (Nat.zero_le _)).size;omega
 have hK:HoldsK encSp 2 (sortWorldK encSp 2 w g 0 n d' os) g 0 d':=by
  unfold sortWorldK;refine holdsK_grow _ _ _ _ _ _ _ (by unfold putRowK;rw[size_putRow];exact hg) (holdsK_putRowK _ _ _ _ _ _ _ (holdsK_ahead _ _ _ n _ _ _ hH) ?_);rw[hd,List.size_toArray,List.size_toArray,orderL_length]
 have hi':i<d'.size:=by rw[hd,List.size_toArray];exact hi
 have e:d'[i]! =(orderL nw L)[i]:=by rw[getElem!_pos d' i hi'];simp only[hd,List.getElem_toArray]
 have c0:=(HoldsK.cell hK hi' (c:=0) (by omega)).1;have c1:=(HoldsK.cell hK hi' (c:=1) (by omega)).1;rw[e]at c0 c1;exact⟨c0,c1⟩
end
section
set_option maxRecDepth 100000
open Go.RowKit Go.Shelf
theorem SpAt.take {w:World}{n₀:Nat}{a:Option Addr}{L:List Sp}(h:SpAt w n₀ a L)(k:Nat):SpAt w n₀ a (L.take k):=by
 refine⟨by have:=h.small;rw[List.length_take];omega,fun hl=> ?_⟩;rw[List.length_take]at hl;obtain⟨b,off,ha,hb,hc⟩:=h.cells (by omega);refine⟨b,off,ha,hb,fun i hi=> ?_⟩;rw[List.length_take]at hi;rw[List.getElem_take];exact hc i (by omega)
def BlkOut (w:World)(L:List Sp)(e:Ending)(w':World):Prop :=
 ∃a cap,e= .returned (.slice a L.length cap)/\SpAt w' w'.heap.size a L/\L.length<=cap/\(∀ad,a=some ad->w.heap.size<=ad.block/\ad=⟨ad.block,ad.off,none⟩)/\Below w.heap.size w w'
theorem blocks_any (B R lb:Nat) (b:Bx) (w:World) (h:BoxAt B R lb b w) (ok:b.Ok) :
  Calls Tryz.prog 146 #[.pointer (some ⟨B,0,none⟩)] w (BlkOut w b.rep):=by
 obtain⟨a,cap,-,-,-,⟨c3,-⟩,⟨c4,-⟩,hsp,hcap,hap⟩:=h.ats;have hBl:=h.lt.1;have HSP:=hid hsp;have HOK:=hid ok.canon
 have hcl:∀w',Below w.heap.size w w'->Calls Tryz.prog 180 #[.slice a b.bl.length cap] w' fun e w''=>∃v,e= .returned v/\OwnSp w'' w'.heap.size v b.bl/\Below w'.heap.size w' w'':=by
  intro w' hb';have hsp':=(hsp.below hb').mono hb'.size
  cases a with
  | none =>
   have hl:b.bl=[]:=by
    rcases Nat.eq_zero_or_pos b.bl.length with e | e
    ·exact List.eq_nil_of_length_eq_zero e
    obtain⟨bb,off,e,_⟩:=hsp.cells e;cases e
   rw[hl];refine(clone_nil cap w').mono ?_;rintro e w'' ⟨he,rfl⟩;exact⟨_,he,OwnSp.nil _ _,Below.refl _ _⟩
  | some ad =>
   have:=hap.1 ad rfl;obtain⟨blk,off,p⟩:=ad
   cases this
   exact clone_some blk off cap b.bl w' hsp'
 have HCL:=hid hcl;have HAP:=hid hap;clear hsp hap hcl h ok
 go_enter Tryz.func146,Tryz.ntmps146
 go_wp2_with fail;obtain⟨W2,hW2⟩:∃W2,W2=(w.alloc (.cells #[.pointer (some ⟨B,0,none⟩)] 98)).alloc (.cells #[.func (.func 179) #[] #[.pointer (some ⟨w.heap.size,0,none⟩)]] 189):=⟨_,rfl⟩;have hb2:Below w.heap.size w W2:=by rw[hW2];exact((Below.refl _ w).alloc (Nat.le_refl _) _).alloc (by simp) _
 have hs2:W2.heap.size=w.heap.size+1+1:=by rw[hW2];simp
 have hX:W2.cell? ⟨w.heap.size,0,none⟩=some (.pointer (some ⟨B,0,none⟩)):=by rw[hW2];simp
 have hF:W2.cell? ⟨w.heap.size+1,0,none⟩=some (.func (.func 179) #[] #[.pointer (some ⟨w.heap.size,0,none⟩)]):=by rw[hW2];simp
 have hN:=(hb2.cell (p:=⟨B,4,none⟩) hBl).trans c4;rw[<-hW2];have HB2:=hid hb2;clear hW2 c3 c4;refine(HCL.o _ hb2).mono ?_;clear hb2;rintro e w1⟨v,rfl,hown,hb1⟩;have gX:=(hb1.cell (p:=⟨w.heap.size,0,none⟩) (by simp;omega)).trans hX;have gF:=(hb1.cell (p:=⟨w.heap.size+1,0,none⟩) (by simp;omega)).trans hF;have gN:=(hb1.cell (p:=⟨B,4,none⟩) (by simp;omega)).trans hN;have HB1:=hid (HB2.trans (hb1.mono (by omega)));have hs1:=hb1.size;clear hX hF hN hb1 HB2 HCL
 rcases OwnSp.cases hown with⟨rfl,hl⟩ | ⟨g,cap',rfl,hg1,hg2,hg3,hg4⟩
 ·have HL:=hid hl;clear hown hl;go_wp2_with fail;refine(sort_none _ _ _ _).mono ?_;rintro e w2⟨rfl,rfl⟩;go_wp2;go_ret;have er:b.rep=[]:=by unfold Bx.rep orderL;rw[HL.o];rfl
  exact⟨none,0,by rw[er];rfl,by rw[er];exact⟨by simp,fun hl=>by simp at hl⟩,by rw[er];simp,fun ad e=>(by cases e),HB1.o⟩
 obtain⟨hH,-⟩:=hown.holds;have hsm:=HSP.small;have HSO:=hid (sort_any b.nw g cap' b.bl (w.heap.size+1) w.heap.size B w1 HOK.o hsm hH hg2 gF gX gN (by omega) (by omega) (by omega));obtain⟨k,hk⟩:∃k,k=b.bl.length:=⟨_,rfl⟩;have HK:=hid hk;clear hH hown gX gF gN;rw[<-hk]at hg3 hcap hsm|-;clear hk;go_wp2_with fail;rw[HK.o];refine HSO.mono ?_;rintro e w2⟨rfl,hsp2,hb2⟩;rw[<-HK.o];have HS2:=hid hsp2;have HB2:=hid (HB1.trans (hb2 w.heap.size (by omega) (by omega)));have HR:=hid (show b.rep=(orderL b.nw b.bl).take 3 from rfl);have HRL:=hid (show b.rep.length=min k 3 by rw[HK.o];exact Bx.rep_length b);clear hsp2 hb2 HSO HB1;go_wp2;go_ret;refine⟨some ⟨g,0,none⟩,cap',?_,?_,by rw[HRL.o];omega,fun ad e=>(by cases e;exact⟨by show w.heap.size<=g;omega,rfl⟩),HB2.o⟩
 ·show Ending.returned (Value.slice (some ⟨g,0,none⟩) (min (k:Int) 3).toNat cap')=_;rw[HRL.o,show(min (k:Int) 3).toNat=min k 3 by omega]
 rw[HR.o];exact HS2.take 3
end
end Go.Proofs.YtclkcmidhhfdmaaGreatDoor
