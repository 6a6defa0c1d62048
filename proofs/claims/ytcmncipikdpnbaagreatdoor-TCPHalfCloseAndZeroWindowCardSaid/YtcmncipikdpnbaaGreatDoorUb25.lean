import Derived.Test.YtcmncipikdpnbaaGreatDoorUb2
import Derived.Test.YtcmncipikdpnbaaGreatDoorUb6
import Derived.Deep.CutBlock
import Derived.Deep.DeepCutAuto
import Derived.Deep.RegionHeld3
namespace Go.Proofs.YtcmncipikdpnbaaGreatDoor
section
open Go.RowKit Go.Shelf
def qK (c:Cf):Value:=.agg #[c.fp,c.tp,c.kc,c.gi,c.room,c.keep]
theorem dE (c n:Int)(w:World)(d:aI c)(f:1<=n)(e:n<=9223372036854775807) :
  Calls Tryz.prog 9 #[c,n] w fun r w'=>r= .returned (aO c n)/\w=w':=by
 obtain⟨h1,h2⟩:=d;by_cases b:c<0
 ·have a:=H (show -((c+1).tmod n)=aO c n by unfold aO;rw[L7 b,<-Int.neg_tmod,MI O])
  go_enter Tryz.func9,Tryz.ntmps9
  go_wp2
  go_ret;exact⟨by rw[<-a.out];rfl,Z⟩
 have a:=H (show c%n=aO c n by unfold aO;rw[L5 b])
 go_enter Tryz.func9,Tryz.ntmps9
 go_wp2
 go_ret;exact⟨by rw[<-a.out];rfl,Z⟩
end
section
open Go.RowKit Go.Shelf
theorem tB (n:Int)(w:World)(f:aI n) :
  Calls Tryz.prog 59 #[n] w fun e w'=>e= .returned (ck n)/\w=w':=by
 obtain⟨h1,h2⟩:=f
 have e:n.tmod 4294967296=if 0<=n then n%4294967296 else -((-n)%4294967296):=by
  split
  ·exact MI O
  have g:n.tmod 4294967296= -((-n).tmod 4294967296):=by rw[Int.neg_tmod,Int.neg_neg]
  rw[g,MI O]
 obtain⟨m,a⟩:∃m,m=n.tmod 4294967296:=⟨_,Z⟩;have h: -4294967296<m/\m<4294967296:=by rw[a,e];split <;> omega
 have d:=H (show ck n=if m<0 then m+4294967296 else m by rw[a,e];unfold ck;(repeat' split) <;> omega);obtain⟨i,j⟩:=h;clear e;by_cases b:m<0
 ·have k:decide (n.tmod 4294967296<0)=true:=by rw[<-a];exact Lc b
  have c:=H (show ck n=n.tmod 4294967296+4294967296 by rw[d.o,L7 b,a])
  go_enter Tryz.func59,Tryz.ntmps59
  go_wp2
  go_ret;exact⟨by rw[c.o];rfl,Z⟩
 have k:decide (n.tmod 4294967296<0)=false:=by rw[<-a];exact Lf b
 have c:=H (show ck n=n.tmod 4294967296 by rw[d.o,L5 b,a])
 go_enter Tryz.func59,Tryz.ntmps59
 go_wp2
 go_ret;exact⟨by rw[c.o];rfl,Z⟩
theorem lV (n:Int)(w:World)(a:aI n) :
  Calls Tryz.prog 28 #[n] w fun e w'=>e= .returned (ck n)/\w=w':=by
 go_enter Tryz.func28,Tryz.ntmps28
 go_wp2_with fail;refine(tB n _ a).mono ?_;rintro e b⟨rfl,rfl⟩;go_wp2;go_ret;exact⟨Z,Z⟩
end
section
set_option maxHeartbeats 8000000
set_option maxRecDepth 100000
open Go.RowKit Go.Shelf
def lm (x:Rw):List Value:=[x.Dc,x.DZ,x.gi,x.sw,x.rp,x.keep]
def rr (c:Cf):List Value:=[c.fp,c.tp,c.kc,c.gi,c.room,c.keep]
structure Rw.In (x:Rw):Prop where
 a:aI x.Dc
 b:aI x.DZ
 m:aI x.gi
 ra:aI x.sw
 rb:aI x.rp
 k:aI x.keep
def tw (B:Nat)(ty:TypeId)(cs:List Value)(W:World):Prop:=W.heap[B]? =some (.cells cs.toArray ty (0,0))
namespace tw
variable {B : Nat} {ty : TypeId} {cs : List Value} {W W' : World}
theorem new (W:World)(ty:TypeId)(cs:List Value):tw W.heap.size ty cs (W.alloc (.cells cs.toArray ty)):=Lp _ _
theorem lt (h:tw B ty cs W):B<W.heap.size:=(L6.1 h).1
theorem below (h:tw B ty cs W)(a:Below W.heap.size W W'):tw B ty cs W':=(a.block B h.lt).trans h
theorem cell (h:tw B ty cs W)(i:Nat)(v:Value)(a:cs[i]? =some v):W.cell? ⟨B,i,none⟩=some v:=by rw[Ln _ _ _ _ _ _ h];simpa using a
theorem free (h:tw B ty cs W)(i:Nat):W.frozen? ⟨B,i,none⟩=false:=LT _ _ _ _ _ h
theorem set (h:tw B ty cs W)(i:Nat)(v:Value):tw B ty (cs.set i v) (W.setCell ⟨B,i,none⟩ v):=by
 unfold tw;rw[LH _ _ _ _ _ _ h]
 simp
theorem other (h:tw B ty cs W){C:Nat}(a:B≠C)(i:Nat)(v:Value):tw B ty cs (W.setCell ⟨C,i,none⟩ v):=(((lh.refl C W).setCell i v).block B h.lt a).trans h
theorem H5 {a b c d e f:Value}(h:tw B ty cs W)(hl:cs.length=6):tw B ty [a,b,c,d,e,f] ((((((W.setCell B a).setCell ⟨B,1,none⟩ b).setCell ⟨B,2,none⟩ c).setCell ⟨B,3,none⟩ d).setCell ⟨B,4,none⟩ e).setCell ⟨B,5,none⟩ f):=by
 have k:=(((((h.set 0 a).set 1 b).set 2 c).set 3 d).set 4 e).set 5 f
 have e:(((((cs.set 0 a).set 1 b).set 2 c).set 3 d).set 4 e).set 5 f=[a,b,c,d,e,f]:=by
  obtain⟨g,i,j,l,m,n,rfl⟩:∃g i j l m n,cs=[g,i,j,l,m,n]:=by
   match cs,hl with
   | [g,i,j,l,m,n],_=>exact⟨g,i,j,l,m,n,Z⟩
  rfl
 rw[e]at k;exact k
theorem FP {a b c d e f:Value}(h:tw B ty cs W){C:Nat}(g:B≠C):tw B ty cs ((((((W.setCell C a).setCell ⟨C,1,none⟩ b).setCell ⟨C,2,none⟩ c).setCell ⟨C,3,none⟩ d).setCell ⟨C,4,none⟩ e).setCell ⟨C,5,none⟩ f) :=
 (((((h.other g 0 a).other g 1 b).other g 2 c).other g 3 d).other g 4 e).other g 5 f
end tw
theorem yx {a b c d e f:Value}{N C:Nat}{w W:World}(h:Below N w W)(g:N<=C):Below N w ((((((W.setCell C a).setCell ⟨C,1,none⟩ b).setCell ⟨C,2,none⟩ c).setCell ⟨C,3,none⟩ d).setCell ⟨C,4,none⟩ e).setCell ⟨C,5,none⟩ f) :=
 (((((h.setCell g a).setCell g b).setCell g c).setCell g d).setCell g e).setCell g f
theorem mt {fn:Func}{p q:Tmp}{t u:TypeId}(h:fn.results= #[.cell p t,.cell q u])(tmps:Array Value)(P:Program)(w:World)(a b:Addr)(v v':Value)
  (e:tmps.getD p undef= .pointer (some a))(f:tmps.getD q undef= .pointer (some b))(g:(loadVar t a).run P w= .ok v w)(i:(loadVar u b).run P w= .ok v' w) :
  (results fn tmps).run P w= .ok (.tuple #[v,v']) w:=by
 have c:tmps[p]?.getD undef= .pointer (some a):=by simpa using e
 have d:tmps[q]?.getD undef= .pointer (some b):=JC
 simp[results,h,c,d,asAddr,g,i,Sem.run_bind,Result.andThen]
structure Gg (x:Rw)(w:World)(u v:List Value)(W:World):Prop where
 raw:tw w.heap.size 23 (lm x) W
 a:tw (w.heap.size+1) 41 u W
 b:tw (w.heap.size+2) 41 v W
 oz:Below w.heap.size w W
namespace Gg
variable {x : Rw} {w W W' : World} {u v : List Value}
theorem below (h:Gg x w u v W)(c:Below W.heap.size W W'):Gg x w u v W':=⟨h.raw.below c,h.a.below c,h.b.below c,h.oz.trans (c.mono h.oz.size)⟩
theorem GR (h:Gg x w u v W)(B:Nat)(a:B=w.heap.size)(i:Nat)(y:Value)(hy:(lm x)[i]? =some y):W.cell? ⟨B,i,none⟩=some y:=by subst a;exact h.raw.cell i y hy
theorem start (x:Rw)(w:World):Gg x w [(0:Int),(0:Int),(0:Int),(0:Int),(0:Int),(0:Int)] [(0:Int),(0:Int),(0:Int),(0:Int),(0:Int),(0:Int)] (((w.alloc (.cells (lm x).toArray 23)).alloc (.cells ([(0:Int),(0:Int),(0:Int),(0:Int),(0:Int),(0:Int)]:List Value).toArray 41)).alloc (.cells ([(0:Int),(0:Int),(0:Int),(0:Int),(0:Int),(0:Int)]:List Value).toArray 41)):=by
 have f:=(L3 w.heap.size w).alloc (L4 _) (.cells (lm x).toArray 23);have g:=tw.new w 23 (lm x);have b:(w.alloc (.cells (lm x).toArray 23)).heap.size=w.heap.size+1:=LX ..;generalize w.alloc (.cells (lm x).toArray 23)=w1 at *;have c:=(L3 w1.heap.size w1).alloc (L4 _) (.cells ([(0:Int),(0:Int),(0:Int),(0:Int),(0:Int),(0:Int)]:List Value).toArray 41);have d:=tw.new w1 41 [(0:Int),(0:Int),(0:Int),(0:Int),(0:Int),(0:Int)];have h:(w1.alloc (.cells ([(0:Int),(0:Int),(0:Int),(0:Int),(0:Int),(0:Int)]:List Value).toArray 41)).heap.size=w1.heap.size+1:=LX ..;generalize w1.alloc (.cells ([(0:Int),(0:Int),(0:Int),(0:Int),(0:Int),(0:Int)]:List Value).toArray 41)=w2 at *;have a:=(L3 w2.heap.size w2).alloc (L4 _) (.cells ([(0:Int),(0:Int),(0:Int),(0:Int),(0:Int),(0:Int)]:List Value).toArray 41);have e:=tw.new w2 41 [(0:Int),(0:Int),(0:Int),(0:Int),(0:Int),(0:Int)];rw[h,b]at e;rw[b]at d;exact⟨(g.below c).below a,d.below a,e,(f.trans (c.mono O)).trans (a.mono O)⟩
end Gg
theorem pc (x:Rw) (w:World) (hx:x.In) :
  Calls Tryz.prog 13 #[.agg (lm x).toArray] w fun e w'=>e= .returned (.tuple #[qK (ej x),qK (eH x)])/\Below w.heap.size w w':=by
 have i:=H hx;clear hx;have c:=H (Gg.start x w)
 go_enter Tryz.func13,Tryz.ntmps13
 go_upto_region 1 with fail
 change Code.wp _ _ _ _ (((w.alloc (.cells (lm x).toArray 23)).alloc (.cells ([(0:Int),(0:Int),(0:Int),(0:Int),(0:Int),(0:Int)]:List Value).toArray 41)).alloc (.cells ([(0:Int),(0:Int),(0:Int),(0:Int),(0:Int),(0:Int)]:List Value).toArray 41));generalize ((w.alloc (.cells (lm x).toArray 23)).alloc (.cells ([(0:Int),(0:Int),(0:Int),(0:Int),(0:Int),(0:Int)]:List Value).toArray 41)).alloc (.cells ([(0:Int),(0:Int),(0:Int),(0:Int),(0:Int),(0:Int)]:List Value).toArray 41)=w1 at c|-;obtain⟨B,t⟩:∃B,B=w.heap.size:=⟨_,Z⟩;rw[<-t];have g:=H t;clear t;have A:=c.raw.cell 2 _ Z;rw[<-g.o]at A;go_wp2_with fail;refine(dE x.gi 100 _ i.m D D).mono ?_;rintro e S⟨rfl,rfl⟩;clear A;have I:=ah x.gi 100 D;have J:=ah x.sw 400 D;have T:=ah x.rp 400 D;have U:=ah x.keep 400 D;have wa:IntKind.i64.wrap (40+aO x.sw 400)=40+aO x.sw 400:=LC _ O;have wb:IntKind.i64.wrap (40+aO x.rp 400)=40+aO x.rp 400:=LC _ O;have V:IntKind.i64.wrap (40+aO x.keep 400)=40+aO x.keep 400:=LC _ O;obtain⟨j,l⟩:∃j,j=w1.heap.size:=⟨_,Z⟩;have K:w.heap.size+2<j:=by rw[l];exact c.b.lt
 have y:=H l;clear l
 go_upto_region 2 with fail
 go_cut [5]from 11 to 23 (fun v p=>v= .pointer (some ⟨j,0,none⟩)/\Gg x w [(0:Int),(0:Int),(0:Int),(0:Int),(0:Int),(0:Int)] [(0:Int),(0:Int),(0:Int),(0:Int),(0:Int),(0:Int)] p/\tw j 41 (rr (ej x)) p)
 case first =>
  have L:=c.GR B g.o 0 _ Z;have M:=c.GR B g.o 3 _ Z;have N:=c.GR B g.o 5 _ Z
  go_region_held3 (fun W:World=>W.cell? B=some (x.Dc:Y)/\W.cell? ⟨B,3,none⟩=some (x.sw:Y)/\W.cell? ⟨B,5,none⟩=some (x.keep:Y)) (go_keep) (first | (go_at_call 28;refine(lV x.Dc _ i.o.a).mono ?_;rintro e r⟨rfl,rfl⟩) | (go_at_call 9;first | (with_reducible refine(dE x.sw 400 _ i.o.ra D D).mono ?_;rintro e r⟨rfl,rfl⟩) | (with_reducible refine(dE x.keep 400 _ i.o.k D D).mono ?_;rintro e r⟨rfl,rfl⟩)))
  all_goals
   go_wp2_with fail
   go_meet
   case rel=>exact⟨by rw[y.o],c.below (((L3 w1.heap.size w1).alloc (L4 _) _).drew),by rw[y.o];exact Lp _ _⟩
 case rest =>
  obtain⟨rfl,h1,h2⟩:=hcut;clear c;have c:=H h1;have h:=H h2;clear h1 h2;clear y;obtain⟨s,n⟩:∃s,s=wc.heap.size:=⟨_,Z⟩;have X:j<s:=by rw[n];exact h.lt
  have z:=H n;clear n
  go_upto_region 3 with fail
  go_cut [6]from 24 to 36 (fun v p=>v= .pointer (some ⟨s,0,none⟩)/\Gg x w [(0:Int),(0:Int),(0:Int),(0:Int),(0:Int),(0:Int)] [(0:Int),(0:Int),(0:Int),(0:Int),(0:Int),(0:Int)] p/\tw s 41 (rr (eH x)) p/\tw j 41 (rr (ej x)) p)
  case first =>
   have L:=c.GR B g.o 1 _ Z;have M:=c.GR B g.o 4 _ Z;have N:=c.GR B g.o 5 _ Z
   go_region_held3 (fun W:World=>W.cell? ⟨B,1,none⟩=some (x.DZ:Y)/\W.cell? ⟨B,4,none⟩=some (x.rp:Y)/\W.cell? ⟨B,5,none⟩=some (x.keep:Y)) (go_keep) (first | (go_at_call 28;refine(lV x.DZ _ i.o.b).mono ?_;rintro e r⟨rfl,rfl⟩) | (go_at_call 9;first | (with_reducible refine(dE x.rp 400 _ i.o.rb D D).mono ?_;rintro e r⟨rfl,rfl⟩) | (with_reducible refine(dE x.keep 400 _ i.o.k D D).mono ?_;rintro e r⟨rfl,rfl⟩)))
   all_goals
    go_wp2_with fail
    go_meet
    case rel=>exact⟨by rw[z.o],c.below (((L3 wc.heap.size wc).alloc (L4 _) _).drew),by rw[z.o];exact Lp _ _,h.below (((L3 wc.heap.size wc).alloc (L4 _) _).drew)⟩
  case rest=> -- second
   obtain⟨rfl,h1,h2,C⟩:=hcut;clear c h;have c:=H h1;have q:=H h2;have h:=H C;clear h1 h2 C z;have d:=H c.a;have f:=H c.b;have P:=H c.oz;rw[<-g.o]at d f K;clear c;have m0:=h.cell 0 _ Z;have m1:=h.cell 1 _ Z;have m2:=h.cell 2 _ Z;have m3:=h.cell 3 _ Z;have m4:=h.cell 4 _ Z;have m5:=h.cell 5 _ Z;have n0:=q.cell 0 _ Z;have n1:=q.cell 1 _ Z;have n2:=q.cell 2 _ Z;have n3:=q.cell 3 _ Z;have n4:=q.cell 4 _ Z;have n5:=q.cell 5 _ Z;have f0:=d.free 0;have f1:=d.free 1;have f2:=d.free 2;have f3:=d.free 3;have f4:=d.free 4;have f5:=d.free 5;have g0:=f.free 0;have g1:=f.free 1;have g2:=f.free 2;have g3:=f.free 3;have g4:=f.free 4;have g5:=f.free 5;have e0:=d.cell 0 _ Z;have e1:=d.cell 1 _ Z;have e2:=d.cell 2 _ Z;have e3:=d.cell 3 _ Z;have e4:=d.cell 4 _ Z;have e5:=d.cell 5 _ Z;have k0:=f.cell 0 _ Z;have k1:=f.cell 1 _ Z;have k2:=f.cell 2 _ Z;have k3:=f.cell 3 _ Z;have k4:=f.cell 4 _ Z;have k5:=f.cell 5 _ Z
   go_upto_region 4 with fail
   go_region
   go_wp2_with fail;have E:=H (show tw (B+1) 41 (rr (ej x)) ((((((((((((wc.setCell ⟨B+1,0,none⟩ (ej x).fp).setCell ⟨B+1,1,none⟩ (ej x).tp).setCell ⟨B+1,2,none⟩ (ej x).kc).setCell ⟨B+1,3,none⟩ (ej x).gi).setCell ⟨B+1,4,none⟩ (ej x).room).setCell ⟨B+1,5,none⟩ (ej x).keep).setCell ⟨B+1+1,0,none⟩ (eH x).fp).setCell ⟨B+1+1,1,none⟩ (eH x).tp).setCell ⟨B+1+1,2,none⟩ (eH x).kc).setCell ⟨B+1+1,3,none⟩ (eH x).gi).setCell ⟨B+1+1,4,none⟩ (eH x).room).setCell ⟨B+1+1,5,none⟩ (eH x).keep)from(d.H5 Z).FP O);have F:=H (show tw (B+1+1) 41 (rr (eH x)) ((((((((((((wc.setCell ⟨B+1,0,none⟩ (ej x).fp).setCell ⟨B+1,1,none⟩ (ej x).tp).setCell ⟨B+1,2,none⟩ (ej x).kc).setCell ⟨B+1,3,none⟩ (ej x).gi).setCell ⟨B+1,4,none⟩ (ej x).room).setCell ⟨B+1,5,none⟩ (ej x).keep).setCell ⟨B+1+1,0,none⟩ (eH x).fp).setCell ⟨B+1+1,1,none⟩ (eH x).tp).setCell ⟨B+1+1,2,none⟩ (eH x).kc).setCell ⟨B+1+1,3,none⟩ (eH x).gi).setCell ⟨B+1+1,4,none⟩ (eH x).room).setCell ⟨B+1+1,5,none⟩ (eH x).keep)from(f.FP O).H5 Z);have G:=H (show Below w.heap.size w ((((((((((((wc.setCell ⟨B+1,0,none⟩ (ej x).fp).setCell ⟨B+1,1,none⟩ (ej x).tp).setCell ⟨B+1,2,none⟩ (ej x).kc).setCell ⟨B+1,3,none⟩ (ej x).gi).setCell ⟨B+1,4,none⟩ (ej x).room).setCell ⟨B+1,5,none⟩ (ej x).keep).setCell ⟨B+1+1,0,none⟩ (eH x).fp).setCell ⟨B+1+1,1,none⟩ (eH x).tp).setCell ⟨B+1+1,2,none⟩ (eH x).kc).setCell ⟨B+1+1,3,none⟩ (eH x).gi).setCell ⟨B+1+1,4,none⟩ (eH x).room).setCell ⟨B+1+1,5,none⟩ (eH x).keep)from yx (yx P.o (by have:=g.o;omega)) (by have:=g.o;omega));generalize ((((((((((((wc.setCell ⟨B+1,0,none⟩ (ej x).fp).setCell ⟨B+1,1,none⟩ (ej x).tp).setCell ⟨B+1,2,none⟩ (ej x).kc).setCell ⟨B+1,3,none⟩ (ej x).gi).setCell ⟨B+1,4,none⟩ (ej x).room).setCell ⟨B+1,5,none⟩ (ej x).keep).setCell ⟨B+1+1,0,none⟩ (eH x).fp).setCell ⟨B+1+1,1,none⟩ (eH x).tp).setCell ⟨B+1+1,2,none⟩ (eH x).kc).setCell ⟨B+1+1,3,none⟩ (eH x).gi).setCell ⟨B+1+1,4,none⟩ (eH x).room).setCell ⟨B+1+1,5,none⟩ (eH x).keep)=wz at E F G|-;exact Lm (v:=.tuple #[.agg (rr (ej x)).toArray,.agg (rr (eH x)).toArray]) (mt Z _ _ _ ⟨B+1,0,none⟩ ⟨B+1+1,0,none⟩ _ _ Z Z (NM _ _ _ _ _ _ _ E.out Tryz.underlying41 Z IG) (NM _ _ _ _ _ _ _ F.out Tryz.underlying41 Z IG)) Z ⟨Z,G.out.drew⟩
end
section
set_option maxRecDepth 100000
open Go.RowKit Go.Shelf
def i8 (s:Int)(n i:Nat):List UInt8:=dW s i++List.replicate (n-i) 0
theorem mu (s:Int)(n:Nat):(dW s n).length=n:=by unfold dW;rw[LI,List.length_range]
theorem kF (s:Int)(n i:Nat)(h:i<=n):(i8 s n i).length=n:=by
 unfold i8;rw[La,mu,Mt];omega
theorem wK (s:Int)(n i:Nat)(h:i<n):(i8 s n i).set i (xQ s i)=i8 s n (i+1):=by
 unfold i8;rw[List.set_append_right _ _ (by rw[mu];omega),mu,Nat.sub_self,show n-i=(n-(i+1))+1 by omega,List.replicate_succ,Li];show _=(List.range (i+1)).map (xQ s)++_;rw[List.range_succ,LN,LK];rfl
theorem bR.Hw {g:Nat}{rg:List UInt8}{w:World}(h:bR g rg w)(i:Nat)(c:UInt8):bR g (rg.set i c) (w.setCell ⟨g,i,none⟩ (.int .u8 (c.toNat:Int))):=by
 unfold bR;rw[LH _ _ _ _ _ _ h]
 simp[Lib.byteCells,List.map_set]
theorem yy (s:Int)(h0:s=0\/s=1)(i:Nat):((xQ s i).toNat:Int)=97+((i:Int)*7+(i:Int)/13+s*5)%26:=by
 unfold xQ;rw[UInt8.toNat_ofNat']
 rcases h0 with rfl | rfl <;> simp <;> omega
theorem rM (s:Int) (n:Nat) (w:World) (hs:s=0\/s=1) (z:n<=1000) :
  Calls Tryz.prog 15 #[s,.int .i64 n] w fun e w'=>e= .returned (.string ⟨(dW s n).toArray⟩)/\Below w.heap.size w w':=by
 obtain⟨A,hi,h,j,l⟩:=MG mO
 go_enter Tryz.func15,Tryz.ntmps15
 go_wp2_with (first | (at_make;refine wpList_make_full _ Z _ _ _ Z w.heap.size 5 A _ 1 Tryz.underlying72 hi h j _ _ _ _ n Z Z Z Z (by rw[l];omega) IX (L4 _) ?_))
 intro m a b
 have p:bR w.heap.size (i8 s n 0) m:=by
  refine iV (base:=w.heap.size) (n:=n) (cap:=n) ?_ Z
  have e:(madeCells #[Value.int .u8 0] n).toList=Lib.byteCells (i8 s n 0):=by
   apply List.ext_getElem
   ·simp[madeCells,Lib.byteCells,i8,dW]
   intro i h1 h2
   simp[madeCells,Lib.byteCells,i8,dW,Nat.mod_one]
  rw[<-e];exact a
 have C:=(ME a w.heap.size Z).2;have q:Below w.heap.size w m:=aR b (L4 _) (fun k e=>by cases e);have E:=H p;have F:=H q;have G:=H hs;have I:0<=s/\s<=1:=O
 clear a b p q hs;go_wp2_with fail
 go_loopw [6] (fun u wr=>∃i:Nat,u= .int .i64 i/\i<=n/\bR w.heap.size (i8 s n i) wr/\Below w.heap.size w wr) (fun u _=>n-(intOf u).toNat)
 case atStart=>exact⟨0,Z,LW _,E.o,F.o⟩
 case round =>
  obtain⟨i,rfl,c,r,d⟩:=hrel;have g:=H r;have t:=H d;clear r d;by_cases f:i<n
  ·have J:=kF s n i c;obtain⟨y,hcell⟩:∃y,wr.cell? ⟨w.heap.size,i,none⟩=some (.int .u8 y):=⟨_,ko g.o i O⟩;have L:wr.frozen? ⟨w.heap.size,i,none⟩=false:=LT _ _ _ _ _ g.o;have K:=H (yy s G.o i);clear J;go_wp2_with fail;refine⟨⟨i+1,FE,O,?_,t.setCell (L4 _) _⟩,by simp[intOf];omega⟩;have e:=K.o;rw[<-e,<-wK s n i f];exact g.Hw i _
  have M:=nt g.o n n (kF s n i c);have he:i=n:=O
  subst he;go_wp2;go_ret;refine⟨?_,t.o⟩;unfold i8
  simp
end
end Go.Proofs.YtcmncipikdpnbaaGreatDoor
