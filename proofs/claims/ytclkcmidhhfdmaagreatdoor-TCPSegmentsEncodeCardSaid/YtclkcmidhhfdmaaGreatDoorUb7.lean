import Derived.Test.YtclkcmidhhfdmaaGreatDoorUb3
import Derived.Test.YtclkcmidhhfdmaaGreatDoorUb6
import Derived.Deep.CutBlock
import Derived.Deep.DeepCutAuto
import Derived.Deep.RegionHeld3
namespace Go.Proofs.YtclkcmidhhfdmaaGreatDoor
open Lib (hid)
section
open Go.RowKit Go.Shelf
def mf (c:Cf):Value:=.agg #[c.fp,c.tp,c.iss,c.mss,c.room,c.keep]
theorem bB (c n:Int)(w:World)(hc:aI c)(hn:1<=n)(hn2:n<=9223372036854775807) :
  Calls Tryz.prog 29 #[c,n] w fun r w'=>r= .returned (aR c n)/\w=w':=by
 obtain⟨h1,h2⟩:=hc;by_cases c1:c<0
 ·have H:=hid (show -((c+1).tmod n)=aR c n by unfold aR;rw[if_pos c1,<-Int.neg_tmod,Int.tmod_eq_emod_of_nonneg (by omega)])
  go_enter Tryz.func29,Tryz.ntmps29
  go_wp2
  go_ret;exact⟨by rw[<-H.out];rfl,rfl⟩
 have H:=hid (show c%n=aR c n by unfold aR;rw[if_neg c1])
 go_enter Tryz.func29,Tryz.ntmps29
 go_wp2
 go_ret;exact⟨by rw[<-H.out];rfl,rfl⟩
end
section
open Go.RowKit Go.Shelf
theorem oa (n:Int)(w:World)(hn:aI n) :
  Calls Tryz.prog 49 #[n] w fun e w'=>e= .returned (gB n)/\w=w':=by
 obtain⟨h1,h2⟩:=hn
 have e:n.tmod 4294967296=if 0<=n then n%4294967296 else -((-n)%4294967296):=by
  split
  ·exact Int.tmod_eq_emod_of_nonneg (by omega)
  have h3:n.tmod 4294967296= -((-n).tmod 4294967296):=by rw[Int.neg_tmod,Int.neg_neg]
  rw[h3,Int.tmod_eq_emod_of_nonneg (by omega)]
 obtain⟨m,hm⟩:∃m,m=n.tmod 4294967296:=⟨_,rfl⟩;have hb: -4294967296<m/\m<4294967296:=by rw[hm,e];split <;> omega
 have HV:=hid (show gB n=if m<0 then m+4294967296 else m by rw[hm,e];unfold gB;(repeat' split) <;> omega);obtain⟨hb1,hb2⟩:=hb;clear e;by_cases c1:m<0
 ·have hd:decide (n.tmod 4294967296<0)=true:=by rw[<-hm];exact decide_eq_true c1
  have HE:=hid (show gB n=n.tmod 4294967296+4294967296 by rw[HV.o,if_pos c1,hm])
  go_enter Tryz.func49,Tryz.ntmps49
  go_wp2
  go_ret;exact⟨by rw[HE.o];rfl,rfl⟩
 have hd:decide (n.tmod 4294967296<0)=false:=by rw[<-hm];exact decide_eq_false c1
 have HE:=hid (show gB n=n.tmod 4294967296 by rw[HV.o,if_neg c1,hm])
 go_enter Tryz.func49,Tryz.ntmps49
 go_wp2
 go_ret;exact⟨by rw[HE.o];rfl,rfl⟩
theorem jU (n:Int)(w:World)(hn:aI n) :
  Calls Tryz.prog 19 #[n] w fun e w'=>e= .returned (gB n)/\w=w':=by
 go_enter Tryz.func19,Tryz.ntmps19
 go_wp2_with fail;refine(oa n _ hn).mono ?_;rintro e w1⟨rfl,rfl⟩;go_wp2;go_ret;exact⟨rfl,rfl⟩
end
section
set_option maxHeartbeats 8000000
set_option maxRecDepth 100000
open Go.RowKit Go.Shelf
def jc (x:Rw):List Value:=[x.issA,x.issB,x.mss,x.roomA,x.roomB,x.keep]
def oM (c:Cf):List Value:=[c.fp,c.tp,c.iss,c.mss,c.room,c.keep]
structure Rw.In (x:Rw):Prop where
 a:aI x.issA
 b:aI x.issB
 m:aI x.mss
 ra:aI x.roomA
 rb:aI x.roomB
 k:aI x.keep
def RowB (B:Nat)(ty:TypeId)(cs:List Value)(W:World):Prop:=W.heap[B]? =some (.cells cs.toArray ty (0,0))
namespace RowB
variable {B : Nat} {ty : TypeId} {cs : List Value} {W W' : World}
theorem new (W:World)(ty:TypeId)(cs:List Value):RowB W.heap.size ty cs (W.alloc (.cells cs.toArray ty)):=heap_alloc_new _ _
theorem lt (h:RowB B ty cs W):B<W.heap.size:=(Array.getElem?_eq_some_iff.1 h).1
theorem below (h:RowB B ty cs W)(hb:Below W.heap.size W W'):RowB B ty cs W':=(hb.block B h.lt).trans h
theorem cell (h:RowB B ty cs W)(i:Nat)(v:Value)(hv:cs[i]? =some v):W.cell? ⟨B,i,none⟩=some v:=by rw[cell_of_row _ _ _ _ _ _ h];simpa using hv
theorem free (h:RowB B ty cs W)(i:Nat):W.frozen? ⟨B,i,none⟩=false:=frozen_of_row _ _ _ _ _ h
theorem set (h:RowB B ty cs W)(i:Nat)(v:Value):RowB B ty (cs.set i v) (W.setCell ⟨B,i,none⟩ v):=by
 unfold RowB;rw[heap_setCell_same _ _ _ _ _ _ h]
 simp
theorem other (h:RowB B ty cs W){C:Nat}(hne:B≠C)(i:Nat)(v:Value):RowB B ty cs (W.setCell ⟨C,i,none⟩ v):=(((Chg.refl C W).setCell i v).block B h.lt hne).trans h
theorem set6 {a b c d e f:Value}(h:RowB B ty cs W)(hl:cs.length=6):RowB B ty [a,b,c,d,e,f] ((((((W.setCell B a).setCell ⟨B,1,none⟩ b).setCell ⟨B,2,none⟩ c).setCell ⟨B,3,none⟩ d).setCell ⟨B,4,none⟩ e).setCell ⟨B,5,none⟩ f):=by
 have k:=(((((h.set 0 a).set 1 b).set 2 c).set 3 d).set 4 e).set 5 f
 have e:(((((cs.set 0 a).set 1 b).set 2 c).set 3 d).set 4 e).set 5 f=[a,b,c,d,e,f]:=by
  obtain⟨x0,x1,x2,x3,x4,x5,rfl⟩:∃x0 x1 x2 x3 x4 x5,cs=[x0,x1,x2,x3,x4,x5]:=by
   match cs,hl with
   | [x0,x1,x2,x3,x4,x5],_=>exact⟨x0,x1,x2,x3,x4,x5,rfl⟩
  rfl
 rw[e]at k;exact k
theorem other6 {a b c d e f:Value}(h:RowB B ty cs W){C:Nat}(hne:B≠C):RowB B ty cs ((((((W.setCell C a).setCell ⟨C,1,none⟩ b).setCell ⟨C,2,none⟩ c).setCell ⟨C,3,none⟩ d).setCell ⟨C,4,none⟩ e).setCell ⟨C,5,none⟩ f) :=
 (((((h.other hne 0 a).other hne 1 b).other hne 2 c).other hne 3 d).other hne 4 e).other hne 5 f
end RowB
theorem sW {a b c d e f:Value}{N C:Nat}{w W:World}(h:Below N w W)(hC:N<=C):Below N w ((((((W.setCell C a).setCell ⟨C,1,none⟩ b).setCell ⟨C,2,none⟩ c).setCell ⟨C,3,none⟩ d).setCell ⟨C,4,none⟩ e).setCell ⟨C,5,none⟩ f) :=
 (((((h.setCell hC a).setCell hC b).setCell hC c).setCell hC d).setCell hC e).setCell hC f
theorem kD {fn:Func}{p q:Tmp}{t u:TypeId}(h:fn.results= #[.cell p t,.cell q u])(tmps:Array Value)(P:Program)(w:World)(a b:Addr)(v v':Value)
  (hp:tmps.getD p undef= .pointer (some a))(hq:tmps.getD q undef= .pointer (some b))(hg:(loadVar t a).run P w= .ok v w)(hk:(loadVar u b).run P w= .ok v' w) :
  (results fn tmps).run P w= .ok (.tuple #[v,v']) w:=by
 have hp':tmps[p]?.getD undef= .pointer (some a):=by simpa using hp
 have hq':tmps[q]?.getD undef= .pointer (some b):=by simpa using hq
 simp[results,h,hp',hq',asAddr,hg,hk,Sem.run_bind,Result.andThen]
structure Cfs (x:Rw)(w:World)(u v:List Value)(W:World):Prop where
 raw:RowB w.heap.size 23 (jc x) W
 a:RowB (w.heap.size+1) 52 u W
 b:RowB (w.heap.size+2) 52 v W
 bel:Below w.heap.size w W
namespace Cfs
variable {x : Rw} {w W W' : World} {u v : List Value}
theorem below (h:Cfs x w u v W)(hb:Below W.heap.size W W'):Cfs x w u v W':=⟨h.raw.below hb,h.a.below hb,h.b.below hb,h.bel.trans (hb.mono h.bel.size)⟩
theorem cel (h:Cfs x w u v W)(B:Nat)(hB:B=w.heap.size)(i:Nat)(y:Value)(hy:(jc x)[i]? =some y):W.cell? ⟨B,i,none⟩=some y:=by subst hB;exact h.raw.cell i y hy
theorem start (x:Rw)(w:World):Cfs x w [(0:Int),(0:Int),(0:Int),(0:Int),(0:Int),(0:Int)] [(0:Int),(0:Int),(0:Int),(0:Int),(0:Int),(0:Int)] (((w.alloc (.cells (jc x).toArray 23)).alloc (.cells ([(0:Int),(0:Int),(0:Int),(0:Int),(0:Int),(0:Int)]:List Value).toArray 52)).alloc (.cells ([(0:Int),(0:Int),(0:Int),(0:Int),(0:Int),(0:Int)]:List Value).toArray 52)):=by
 have b0:=(Below.refl w.heap.size w).alloc (Nat.le_refl _) (.cells (jc x).toArray 23);have r0:=RowB.new w 23 (jc x);have s0:(w.alloc (.cells (jc x).toArray 23)).heap.size=w.heap.size+1:=World.size_alloc ..;generalize w.alloc (.cells (jc x).toArray 23)=w1 at *;have b1:=(Below.refl w1.heap.size w1).alloc (Nat.le_refl _) (.cells ([(0:Int),(0:Int),(0:Int),(0:Int),(0:Int),(0:Int)]:List Value).toArray 52);have r1:=RowB.new w1 52 [(0:Int),(0:Int),(0:Int),(0:Int),(0:Int),(0:Int)];have s1:(w1.alloc (.cells ([(0:Int),(0:Int),(0:Int),(0:Int),(0:Int),(0:Int)]:List Value).toArray 52)).heap.size=w1.heap.size+1:=World.size_alloc ..;generalize w1.alloc (.cells ([(0:Int),(0:Int),(0:Int),(0:Int),(0:Int),(0:Int)]:List Value).toArray 52)=w2 at *;have b2:=(Below.refl w2.heap.size w2).alloc (Nat.le_refl _) (.cells ([(0:Int),(0:Int),(0:Int),(0:Int),(0:Int),(0:Int)]:List Value).toArray 52);have r2:=RowB.new w2 52 [(0:Int),(0:Int),(0:Int),(0:Int),(0:Int),(0:Int)];rw[s1,s0]at r2;rw[s0]at r1;exact⟨(r0.below b1).below b2,r1.below b2,r2,(b0.trans (b1.mono (by omega))).trans (b2.mono (by omega))⟩
end Cfs
theorem mH (x:Rw) (w:World) (hx:x.In) :
  Calls Tryz.prog 22 #[.agg (jc x).toArray] w fun e w'=>e= .returned (.tuple #[mf (eM x),mf (di x)])/\Below w.heap.size w w':=by
 have HX:=hid hx;clear hx;have HS:=hid (Cfs.start x w)
 go_enter Tryz.func22,Tryz.ntmps22
 go_upto_region 1 with fail
 change Code.wp _ _ _ _ (((w.alloc (.cells (jc x).toArray 23)).alloc (.cells ([(0:Int),(0:Int),(0:Int),(0:Int),(0:Int),(0:Int)]:List Value).toArray 52)).alloc (.cells ([(0:Int),(0:Int),(0:Int),(0:Int),(0:Int),(0:Int)]:List Value).toArray 52));generalize ((w.alloc (.cells (jc x).toArray 23)).alloc (.cells ([(0:Int),(0:Int),(0:Int),(0:Int),(0:Int),(0:Int)]:List Value).toArray 52)).alloc (.cells ([(0:Int),(0:Int),(0:Int),(0:Int),(0:Int),(0:Int)]:List Value).toArray 52)=w1 at HS|-;obtain⟨B,hB⟩:∃B,B=w.heap.size:=⟨_,rfl⟩;rw[<-hB];have HB:=hid hB;clear hB;have y2:=HS.raw.cell 2 _ rfl;rw[<-HB.o]at y2;go_wp2_with fail;refine(bB x.mss 100 _ HX.m (by decide) (by decide)).mono ?_;rintro e wp⟨rfl,rfl⟩;clear y2;have hp1:=aj x.mss 100 (by decide);have hp2:=aj x.roomA 400 (by decide);have a9:=aj x.roomB 400 (by decide);have aa:=aj x.keep 400 (by decide);have wa:IntKind.i64.wrap (40+aR x.roomA 400)=40+aR x.roomA 400:=IntWalk.i64_in _ (by omega);have wb:IntKind.i64.wrap (40+aR x.roomB 400)=40+aR x.roomB 400:=IntWalk.i64_in _ (by omega);have wk:IntKind.i64.wrap (40+aR x.keep 400)=40+aR x.keep 400:=IntWalk.i64_in _ (by omega);obtain⟨NA,hNA⟩:∃NA,NA=w1.heap.size:=⟨_,rfl⟩;have a3:w.heap.size+2<NA:=by rw[hNA];exact HS.b.lt
 have a4:=hid hNA;clear hNA
 go_upto_region 2 with fail
 go_cut [5]from 11 to 23 (fun v wx=>v= .pointer (some ⟨NA,0,none⟩)/\Cfs x w [(0:Int),(0:Int),(0:Int),(0:Int),(0:Int),(0:Int)] [(0:Int),(0:Int),(0:Int),(0:Int),(0:Int),(0:Int)] wx/\RowB NA 52 (oM (eM x)) wx)
 case first =>
  have z0:=HS.cel B HB.o 0 _ rfl;have z1:=HS.cel B HB.o 3 _ rfl;have z2:=HS.cel B HB.o 5 _ rfl
  go_region_held3 (fun W:World=>W.cell? B=some (x.issA:Y)/\W.cell? ⟨B,3,none⟩=some (x.roomA:Y)/\W.cell? ⟨B,5,none⟩=some (x.keep:Y)) (go_keep) (first | (go_at_call 19;refine(jU x.issA _ HX.o.a).mono ?_;rintro e wq⟨rfl,rfl⟩) | (go_at_call 29;first | (with_reducible refine(bB x.roomA 400 _ HX.o.ra (by decide) (by decide)).mono ?_;rintro e wq⟨rfl,rfl⟩) | (with_reducible refine(bB x.keep 400 _ HX.o.k (by decide) (by decide)).mono ?_;rintro e wq⟨rfl,rfl⟩)))
  all_goals
   go_wp2_with fail
   go_meet
   case rel=>exact⟨by rw[a4.o],HS.below (((Below.refl w1.heap.size w1).alloc (Nat.le_refl _) _).drew),by rw[a4.o];exact heap_alloc_new _ _⟩
 case rest =>
  obtain⟨rfl,h1,h2⟩:=hcut;clear HS;have HS:=hid h1;have HN:=hid h2;clear h1 h2;clear a4;obtain⟨NB,hNB⟩:∃NB,NB=wc.heap.size:=⟨_,rfl⟩;have a6:NA<NB:=by rw[hNB];exact HN.lt
  have a5:=hid hNB;clear hNB
  go_upto_region 3 with fail
  go_cut [6]from 24 to 36 (fun v wx=>v= .pointer (some ⟨NB,0,none⟩)/\Cfs x w [(0:Int),(0:Int),(0:Int),(0:Int),(0:Int),(0:Int)] [(0:Int),(0:Int),(0:Int),(0:Int),(0:Int),(0:Int)] wx/\RowB NB 52 (oM (di x)) wx/\RowB NA 52 (oM (eM x)) wx)
  case first =>
   have z0:=HS.cel B HB.o 1 _ rfl;have z1:=HS.cel B HB.o 4 _ rfl;have z2:=HS.cel B HB.o 5 _ rfl
   go_region_held3 (fun W:World=>W.cell? ⟨B,1,none⟩=some (x.issB:Y)/\W.cell? ⟨B,4,none⟩=some (x.roomB:Y)/\W.cell? ⟨B,5,none⟩=some (x.keep:Y)) (go_keep) (first | (go_at_call 19;refine(jU x.issB _ HX.o.b).mono ?_;rintro e wq⟨rfl,rfl⟩) | (go_at_call 29;first | (with_reducible refine(bB x.roomB 400 _ HX.o.rb (by decide) (by decide)).mono ?_;rintro e wq⟨rfl,rfl⟩) | (with_reducible refine(bB x.keep 400 _ HX.o.k (by decide) (by decide)).mono ?_;rintro e wq⟨rfl,rfl⟩)))
   all_goals
    go_wp2_with fail
    go_meet
    case rel=>exact⟨by rw[a5.o],HS.below (((Below.refl wc.heap.size wc).alloc (Nat.le_refl _) _).drew),by rw[a5.o];exact heap_alloc_new _ _,HN.below (((Below.refl wc.heap.size wc).alloc (Nat.le_refl _) _).drew)⟩
  case rest=> -- second
   obtain⟨rfl,h1,h2,h3⟩:=hcut;clear HS HN;have HS:=hid h1;have HM:=hid h2;have HN:=hid h3;clear h1 h2 h3 a5;have HA:=hid HS.a;have aF:=hid HS.b;have a1:=hid HS.bel;rw[<-HB.o]at HA aF a3;clear HS;have m0:=HN.cell 0 _ rfl;have m1:=HN.cell 1 _ rfl;have m2:=HN.cell 2 _ rfl;have m3:=HN.cell 3 _ rfl;have m4:=HN.cell 4 _ rfl;have m5:=HN.cell 5 _ rfl;have n0:=HM.cell 0 _ rfl;have n1:=HM.cell 1 _ rfl;have n2:=HM.cell 2 _ rfl;have n3:=HM.cell 3 _ rfl;have n4:=HM.cell 4 _ rfl;have n5:=HM.cell 5 _ rfl;have f0:=HA.free 0;have f1:=HA.free 1;have f2:=HA.free 2;have f3:=HA.free 3;have f4:=HA.free 4;have f5:=HA.free 5;have g0:=aF.free 0;have g1:=aF.free 1;have g2:=aF.free 2;have g3:=aF.free 3;have g4:=aF.free 4;have g5:=aF.free 5;have e0:=HA.cell 0 _ rfl;have e1:=HA.cell 1 _ rfl;have e2:=HA.cell 2 _ rfl;have e3:=HA.cell 3 _ rfl;have e4:=HA.cell 4 _ rfl;have e5:=HA.cell 5 _ rfl;have k0:=aF.cell 0 _ rfl;have k1:=aF.cell 1 _ rfl;have k2:=aF.cell 2 _ rfl;have k3:=aF.cell 3 _ rfl;have k4:=aF.cell 4 _ rfl;have k5:=aF.cell 5 _ rfl
   go_upto_region 4 with fail
   go_region
   go_wp2_with fail;have ra:=hid (show RowB (B+1) 52 (oM (eM x)) ((((((((((((wc.setCell ⟨B+1,0,none⟩ (eM x).fp).setCell ⟨B+1,1,none⟩ (eM x).tp).setCell ⟨B+1,2,none⟩ (eM x).iss).setCell ⟨B+1,3,none⟩ (eM x).mss).setCell ⟨B+1,4,none⟩ (eM x).room).setCell ⟨B+1,5,none⟩ (eM x).keep).setCell ⟨B+1+1,0,none⟩ (di x).fp).setCell ⟨B+1+1,1,none⟩ (di x).tp).setCell ⟨B+1+1,2,none⟩ (di x).iss).setCell ⟨B+1+1,3,none⟩ (di x).mss).setCell ⟨B+1+1,4,none⟩ (di x).room).setCell ⟨B+1+1,5,none⟩ (di x).keep)from(HA.set6 rfl).other6 (by omega));have rb:=hid (show RowB (B+1+1) 52 (oM (di x)) ((((((((((((wc.setCell ⟨B+1,0,none⟩ (eM x).fp).setCell ⟨B+1,1,none⟩ (eM x).tp).setCell ⟨B+1,2,none⟩ (eM x).iss).setCell ⟨B+1,3,none⟩ (eM x).mss).setCell ⟨B+1,4,none⟩ (eM x).room).setCell ⟨B+1,5,none⟩ (eM x).keep).setCell ⟨B+1+1,0,none⟩ (di x).fp).setCell ⟨B+1+1,1,none⟩ (di x).tp).setCell ⟨B+1+1,2,none⟩ (di x).iss).setCell ⟨B+1+1,3,none⟩ (di x).mss).setCell ⟨B+1+1,4,none⟩ (di x).room).setCell ⟨B+1+1,5,none⟩ (di x).keep)from(aF.other6 (by omega)).set6 rfl);have rl:=hid (show Below w.heap.size w ((((((((((((wc.setCell ⟨B+1,0,none⟩ (eM x).fp).setCell ⟨B+1,1,none⟩ (eM x).tp).setCell ⟨B+1,2,none⟩ (eM x).iss).setCell ⟨B+1,3,none⟩ (eM x).mss).setCell ⟨B+1,4,none⟩ (eM x).room).setCell ⟨B+1,5,none⟩ (eM x).keep).setCell ⟨B+1+1,0,none⟩ (di x).fp).setCell ⟨B+1+1,1,none⟩ (di x).tp).setCell ⟨B+1+1,2,none⟩ (di x).iss).setCell ⟨B+1+1,3,none⟩ (di x).mss).setCell ⟨B+1+1,4,none⟩ (di x).room).setCell ⟨B+1+1,5,none⟩ (di x).keep)from sW (sW a1.o (by have:=HB.o;omega)) (by have:=HB.o;omega));generalize ((((((((((((wc.setCell ⟨B+1,0,none⟩ (eM x).fp).setCell ⟨B+1,1,none⟩ (eM x).tp).setCell ⟨B+1,2,none⟩ (eM x).iss).setCell ⟨B+1,3,none⟩ (eM x).mss).setCell ⟨B+1,4,none⟩ (eM x).room).setCell ⟨B+1,5,none⟩ (eM x).keep).setCell ⟨B+1+1,0,none⟩ (di x).fp).setCell ⟨B+1+1,1,none⟩ (di x).tp).setCell ⟨B+1+1,2,none⟩ (di x).iss).setCell ⟨B+1+1,3,none⟩ (di x).mss).setCell ⟨B+1+1,4,none⟩ (di x).room).setCell ⟨B+1+1,5,none⟩ (di x).keep)=wz at ra rb rl|-;exact bodyPost_ret (v:=.tuple #[.agg (oM (eM x)).toArray,.agg (oM (di x)).toArray]) (kD rfl _ _ _ ⟨B+1,0,none⟩ ⟨B+1+1,0,none⟩ _ _ rfl rfl (run_loadVar_row _ _ _ _ _ _ _ ra.out Tryz.underlying52 rfl (by kernel_rfl)) (run_loadVar_row _ _ _ _ _ _ _ rb.out Tryz.underlying52 rfl (by kernel_rfl))) rfl ⟨rfl,rl.out.drew⟩
end
section
set_option maxRecDepth 100000
open Go.RowKit Go.Shelf
def gG (s:Int)(n i:Nat):List UInt8:=dJ s i++List.replicate (n-i) 0
theorem kE (s:Int)(n:Nat):(dJ s n).length=n:=by unfold dJ;rw[List.length_map,List.length_range]
theorem iX (s:Int)(n i:Nat)(h:i<=n):(gG s n i).length=n:=by
 unfold gG;rw[List.length_append,kE,List.length_replicate];omega
theorem qa (s:Int)(n i:Nat)(h:i<n):(gG s n i).set i (sA s i)=gG s n (i+1):=by
 unfold gG;rw[List.set_append_right _ _ (by rw[kE];omega),kE,Nat.sub_self,show n-i=(n-(i+1))+1 by omega,List.replicate_succ,List.set_cons_zero];show _=(List.range (i+1)).map (sA s)++_;rw[List.range_succ,List.map_append,List.append_assoc];rfl
theorem bK.setY {g:Nat}{rg:List UInt8}{w:World}(h:bK g rg w)(i:Nat)(c:UInt8):bK g (rg.set i c) (w.setCell ⟨g,i,none⟩ (.int .u8 (c.toNat:Int))):=by
 unfold bK;rw[heap_setCell_same _ _ _ _ _ _ h]
 simp[Lib.byteCells,List.map_set]
theorem sX (s:Int)(h0:s=0\/s=1)(i:Nat):((sA s i).toNat:Int)=97+((i:Int)*7+(i:Int)/13+s*5)%26:=by
 unfold sA;rw[UInt8.toNat_ofNat']
 rcases h0 with rfl | rfl <;> simp <;> omega
theorem nB (s:Int) (n:Nat) (w:World) (hs:s=0\/s=1) (hn2:n<=1000) :
  Calls Tryz.prog 33 #[s,.int .i64 n] w fun e w'=>e= .returned (.string ⟨(dJ s n).toArray⟩)/\Below w.heap.size w w':=by
 obtain⟨i0,hi,hz0,hz1,hz2⟩:=info_parts kC
 go_enter Tryz.func33,Tryz.ntmps33
 go_wp2_with (first | (at_make;refine wpList_make_full _ rfl _ _ _ rfl w.heap.size 5 i0 _ 1 Tryz.underlying112 hi hz0 hz1 _ _ _ _ n rfl rfl rfl rfl (by rw[hz2];omega) (by unfold maxLen;omega) (Nat.le_refl _) ?_))
 intro w1 hown hgr
 have hR:bK w.heap.size (gG s n 0) w1:=by
  refine gE (base:=w.heap.size) (n:=n) (cap:=n) ?_ rfl
  have e:(madeCells #[Value.int .u8 0] n).toList=Lib.byteCells (gG s n 0):=by
   apply List.ext_getElem
   ·simp[madeCells,Lib.byteCells,gG,dJ]
   intro i h1 h2
   simp[madeCells,Lib.byteCells,gG,dJ,Nat.mod_one]
  rw[<-e];exact hown
 have hlt:=(World.ownsRow.lt hown w.heap.size rfl).2;have hb:Below w.heap.size w w1:=aM hgr (Nat.le_refl _) (fun k e=>by cases e);have HR:=hid hR;have HB:=hid hb;have a7:=hid hs;have hs0:0<=s/\s<=1:=by omega
 clear hown hgr hR hb hs;go_wp2_with fail
 go_loopw [6] (fun u wr=>∃i:Nat,u= .int .i64 i/\i<=n/\bK w.heap.size (gG s n i) wr/\Below w.heap.size w wr) (fun u _=>n-(intOf u).toNat)
 case atStart=>exact⟨0,rfl,Nat.zero_le _,HR.o,HB.o⟩
 case round =>
  obtain⟨i,rfl,hin,a0,hbl⟩:=hrel;have a2:=hid a0;have a1:=hid hbl;clear a0 hbl;by_cases hlt':i<n
  ·have hl:=iX s n i hin;obtain⟨c0,hcell⟩:∃c0,wr.cell? ⟨w.heap.size,i,none⟩=some (.int .u8 c0):=⟨_,jE a2.o i (by omega)⟩;have ab:wr.frozen? ⟨w.heap.size,i,none⟩=false:=frozen_of_row _ _ _ _ _ a2.o;have HV:=hid (sX s a7.o i);clear hl;go_wp2_with fail;refine⟨⟨i+1,by simp,by omega,?_,a1.setCell (Nat.le_refl _) _⟩,by simp[intOf];omega⟩;have e:=HV.o;rw[<-e,<-qa s n i hlt'];exact a2.setY i _
  have hc:=lK a2.o n n (iX s n i hin);have he:i=n:=by omega
  subst he;go_wp2;go_ret;refine⟨?_,a1.o⟩;unfold gG
  simp
end
end Go.Proofs.YtclkcmidhhfdmaaGreatDoor
