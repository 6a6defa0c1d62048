import Derived.Test.YtcmncipikdpnbaaGreatDoorUb34
import Derived.Test.YtcmncipikdpnbaaGreatDoorUb35
import Derived.Test.YtcmncipikdpnbaaGreatDoorUb40
import Derived.Laws.ResultCell
namespace Go.Proofs.YtcmncipikdpnbaaGreatDoor
section
open Go.RowKit Go.Shelf
structure Pz (N:Nat)(t:Ft)(w:World)(X:Nat)(o:Obj)(t1:Ft)(q:Pr)(W:World):Prop where
 st:t7 N t w t1 q W
 row:W.heap[X]? =some o
 nd:¬t1.D X
 lo:w.heap.size<=X
namespace Pz
variable {N X : Nat} {o : Obj} {t t1 t2 : Ft} {q q' : Pr} {w W W' : World}
theorem lt (h:Pz N t w X o t1 q W):X<W.heap.size:=(L8.1 h.row).1
theorem new (h:t7 N t w t1 q W)(o:Obj):Pz N t w W.heap.size o t1 q (W.alloc o) :=
 ⟨h.qn ((L5 W.heap.size W).alloc (L6 _) _),Ls _ _,fun e=>MG _ (h.pa.GC _ e).1,h.size⟩
theorem qn (h:Pz N t w X o t1 q W)(a:Below W.heap.size W W'):Pz N t w X o t1 q W':=⟨h.st.qn a,(a.block X h.lt).trans h.row,h.nd,h.lo⟩
theorem step (h:Pz N t w X o t1 q W)(k:t7 N t1 W t2 q' W'):Pz N t w X o t2 q' W' :=
 ⟨h.st.trans k,(k.fr.block X h.lt h.nd).trans h.row,fun e=>by
  rcases k.sub X e with h1 | h1
  ·exact h.nd h1
  ·exact MG _ (Ld h.lt h1),h.lo⟩
end Pz
theorem tJ:∀(k:Nat) (p:Pr),Pr.ticks (k+1) p=(Pr.ticks k p).tick:=by
 intro k
 induction k with
 | zero=>intro p;rfl
 | succ k a=>intro p;exact a p.tick
end
section
set_option maxHeartbeats 8000000
set_option maxRecDepth 100000
open Go.RowKit Go.Shelf
theorem tK (w:World):Calls Tryz.prog 18 #[.pointer none] w fun e w'=>e= .returned (0:Int)/\w=w':=by
 go_enter Tryz.func18,Tryz.ntmps18
 go_wp2
 go_ret;exact⟨Z,Z⟩
theorem zS (w:World):Calls Tryz.prog 25 #[.pointer none] w fun e w'=>e= .returned (1:Int)/\w=w':=by
 go_enter Tryz.func25,Tryz.ntmps25
 go_wp2
 go_ret;exact⟨Z,Z⟩
theorem iz {fn:Func}{p u:Tmp}{t:TypeId}(h:fn.results= #[.cell p t,.tmp u])(tmps:Array Value)(P:Program)(w:World)(a:Addr)(v:Value)
  (c:tmps.getD p undef= .pointer (some a))(d:(loadVar t a).run P w= .ok v w) :
  (results fn tmps).run P w= .ok (.tuple #[v,tmps.getD u undef]) w:=by
 have b:tmps[p]?.getD undef= .pointer (some a):=by simpa using c
 simp[results,h,b,asAddr,d,Result.andThen]
structure GR (w:World)(x y:cP)(W:World):Prop where
 p:aS w.heap.size x W
 r:aS (w.heap.size+1) y W
 qn:Below w.heap.size w W
namespace GR
variable {x y z : cP} {w W W' : World}
theorem start (x:cP)(w:World):GR w x (dE,none,0) ((w.alloc (.cells (aX x).toArray 53)).alloc (.cells (aX (dE,none,0)).toArray 53)):=by
 have c:=(L5 w.heap.size w).alloc (L6 _) (.cells (aX x).toArray 53);have d:=aS.new w x;have e:(w.alloc (.cells (aX x).toArray 53)).heap.size=w.heap.size+1:=M1 ..;generalize w.alloc (.cells (aX x).toArray 53)=w1 at *;have a:=(L5 w1.heap.size w1).alloc (L6 _) (.cells (aX (dE,none,0)).toArray 53);have b:=aS.new w1 (dE,none,0);rw[e]at b;exact⟨d.below a,b,c.trans (a.mono O)⟩
theorem below (h:GR w x y W)(a:Below W.heap.size W W'):GR w x y W':=⟨h.p.below a,h.r.below a,h.qn.trans (a.mono h.qn.size)⟩
theorem put (h:GR w x y W)(z:cP):GR w x z (dm W (w.heap.size+1) z) :=
 have a:=dz W (w.heap.size+1) z
 ⟨h.p.Dj a O,h.r.put,h.qn.trans ⟨a.os,a.tape,a.output,a.size,fun k b=>a.block k (Ld b h.qn.size) O⟩⟩
end GR
theorem pj (s:Sg) (a:Option Addr) (cap:Nat) (w:World) (c:sT w w.heap.size a s.bl) (h:s.okB=false\/s.te=true) :
  Calls Tryz.prog 27 #[dY s a cap] w fun e w'=>e= .returned (.tuple #[dY dE none 0,false])/\Below w.heap.size w w':=by
 have b:=H (GR.start (s,a,cap) w);have d4:=H c;clear c;unfold dY
 go_enter Tryz.func27,Tryz.ntmps27
 go_upto_region 1 with fail
 change Code.wp _ _ _ _ ((w.alloc (.cells (aX (s,a,cap)).toArray 53)).alloc (.cells (aX (dE,none,0)).toArray 53));generalize (w.alloc (.cells (aX (s,a,cap)).toArray 53)).alloc (.cells (aX (dE,none,0)).toArray 53)=w1 at b|-;have j:=b.p.cell 0 _ Z;have k:=b.p.cell 1 _ Z;have l:=b.p.cell 2 _ Z;have m:=b.p.cell 3 _ Z;have n:=b.p.cell 4 _ Z;have A:=b.p.cell 5 _ Z;have B:=b.p.cell 6 _ Z;have C:=b.p.cell 7 _ Z;have E:=b.p.cell 8 _ Z;have G:=b.p.cell 9 _ Z;have I:=b.p.cell 10 _ Z;have J:=b.p.cell 11 _ Z;have K:=b.p.cell 12 _ Z;go_wp2_with fail;refine(kB s w.heap.size a cap w1 (d4.below b.qn) b.qn.size).mono ?_;rintro e d⟨rfl,i⟩;replace b:=H (b.below i);clear i;clear j k l m n A B C E G I J K
 cases ho:s.okB with
 | false =>
  have M:=b.r.free 0;have P:=b.r.free 1;have f2:=b.r.free 2;have f3:=b.r.free 3;have S:=b.r.free 4;have T:=b.r.free 5;have f6:=b.r.free 6;have U:=b.r.free 7;have V:=b.r.free 8;have f9:=b.r.free 9;have f:=b.r.free 10;have g:=b.r.free 11;have d5:=b.r.free 12;have z0:=b.r.cell 0 _ Z;have z1:=b.r.cell 1 _ Z;have z2:=b.r.cell 2 _ Z;have z3:=b.r.cell 3 _ Z;have z4:=b.r.cell 4 _ Z;have z5:=b.r.cell 5 _ Z;have z6:=b.r.cell 6 _ Z;have z7:=b.r.cell 7 _ Z;have z8:=b.r.cell 8 _ Z;have z9:=b.r.cell 9 _ Z;have cX:=b.r.cell 10 _ Z;have d6:=b.r.cell 11 _ Z;have d7:=b.r.cell 12 _ Z;go_wp2_with fail;change bodyPost _ _ _ _ _ (dm d (w.heap.size+1) (dE,none,0));replace b:=H (b.put (dE,none,0));generalize dm d (w.heap.size+1) (dE,none,0)=w3 at b|-;exact Lo (v:=.tuple #[dY (dE) none 0,false]) (iz (p:=2) (u:=3) Z _ _ _ ⟨w.heap.size+1,0,none⟩ _ Z (NQ _ _ _ _ _ _ _ b.r Tryz.underlying53 Z IL)) Z ⟨Z,b.qn⟩
 | true =>
  have hr:s.te=true:=by rcases h with h | h;rw[ho]at h;cases h;exact h
  have r6:=(b.p.cell 6 s.te Z).trans (by rw[hr]);have M:=b.r.free 0;have P:=b.r.free 1;have f2:=b.r.free 2;have f3:=b.r.free 3;have S:=b.r.free 4;have T:=b.r.free 5;have f6:=b.r.free 6;have U:=b.r.free 7;have V:=b.r.free 8;have f9:=b.r.free 9;have f:=b.r.free 10;have g:=b.r.free 11;have d5:=b.r.free 12;have z0:=b.r.cell 0 _ Z;have z1:=b.r.cell 1 _ Z;have z2:=b.r.cell 2 _ Z;have z3:=b.r.cell 3 _ Z;have z4:=b.r.cell 4 _ Z;have z5:=b.r.cell 5 _ Z;have z6:=b.r.cell 6 _ Z;have z7:=b.r.cell 7 _ Z;have z8:=b.r.cell 8 _ Z;have z9:=b.r.cell 9 _ Z;have cX:=b.r.cell 10 _ Z;have d6:=b.r.cell 11 _ Z;have d7:=b.r.cell 12 _ Z;go_wp2_with fail;change bodyPost _ _ _ _ _ (dm d (w.heap.size+1) (dE,none,0));replace b:=H (b.put (dE,none,0));generalize dm d (w.heap.size+1) (dE,none,0)=w3 at b|-;exact Lo (v:=.tuple #[dY (dE) none 0,false]) (iz (p:=2) (u:=3) Z _ _ _ ⟨w.heap.size+1,0,none⟩ _ Z (NQ _ _ _ _ _ _ _ b.r Tryz.underlying53 Z IL)) Z ⟨Z,b.qn⟩
end
section
set_option maxHeartbeats 8000000
set_option maxRecDepth 100000
open Go.RowKit Go.Shelf
theorem B6:wZ.In:=⟨ti,ti,ti,ti,ti,ti⟩
theorem D8.nil (N:Nat)(w:World):D8 N none [] w:=⟨D,(fun x h=>nomatch h),fun h=>absurd h D⟩
theorem wR:((rY.a.c.st=1/\rY.b.c.st=2/\wh.a.c.st=3/\uP.b.c.st=3)/\j7.b.got=[97,104,111]/\j7.b.fin=true/\j7.b.c.st=8)/\oT.a.c.st=0/\oT.b.c.st=0/\oT.a.c.err=0/\oT.b.c.err=0:=by
 have h:=Az;rw[LD,LD,LD,LD,Lj,Lj,Lj,Lj]at h;exact⟨⟨h.1.1.1.1,h.1.1.1.2,h.1.1.2,h.1.2⟩,h.2⟩
theorem pm (now:Int) (c:Cf) (s:Sg) (a:Option Addr) (cap:Nat) (w:World) (hs:s.okB=false) (d:bE w a s.bl) :
  Calls Tryz.prog 26 #[now,pp c,dY s a cap] w (As w):=by
 have f:=H hs;have b:=H (Arg.start (c:=c) (x:=(s,a,cap)) d);clear hs d;unfold pp dY
 go_enter Tryz.func26,Tryz.ntmps26
 go_upto_region 1 with fail
 change Code.wp _ _ _ _ ((w.alloc (.cells #[c.fp,c.tp,c.ki,c.go,c.room,c.keep] 41)).alloc (.cells (aX (s,a,cap)).toArray 53));generalize ((w.alloc (.cells #[c.fp,c.tp,c.ki,c.go,c.room,c.keep] 41)).alloc (.cells (aX (s,a,cap)).toArray 53))=w1 at b|-;have g:=b.row.cell 0 _ Z;have h:=b.row.cell 1 _ Z;have i:=b.row.cell 2 _ Z;have j:=b.row.cell 3 _ Z;have k:=b.row.cell 4 _ Z;have l:=b.row.cell 5 _ Z;have m:=b.row.cell 6 _ Z;have n:=b.row.cell 7 _ Z;have p:=b.row.cell 8 _ Z;have r:=b.row.cell 9 _ Z;have u:=b.row.cell 10 _ Z;have A:=b.row.cell 11 _ Z;have B:=b.row.cell 12 _ Z;go_wp2_with fail;refine(iD s a cap _ b.bl).mono ?_;rintro e C⟨rfl,d⟩;replace b:=H (b.below d);clear d g h i j k l m n p r u A B;rw[f.o];go_wp2_with fail
 go_ret3
 exact⟨Z,b.qn⟩
theorem wS (w:World) (U:Gl w):Calls Tryz.prog 8 #[] w fun e w'=>e= .returned true/\Below w.heap.size w w':=by
 have HG:=H U;have HM:=mw wZ [] none 0 3 0 w B6 U (D8.nil _ _) D D;have K:=H (eI wZ);have s:=H (kF wZ [] 3 0 D D D);obtain⟨⟨⟨e1,e2,e3,e4⟩,e5,e6,e7⟩,e8,e9,V,a1⟩:=wR;clear U;have s:=H (show Pr.Al (cG wZ) rY 0 from s.out);have C:=H (show Pr.Al (cG wZ) wh (0+1)from s.out.tick D D K.o);have M:=H (show Pr.Al (cG wZ) uP (0+1+1)from C.out.tick D D K.o);have E:=H (M.out.send false 3);have G:=H (show Pr.Al (cG wZ) wi (0+1+1+1+1)from E.out.tick D D K.o);have P:=H (G.out.recv true (k:=9) D);have I:=H (P.out.shut false);have J:=H (show Pr.Al (cG wZ) zf (0+1+1+1+1+1+1+1)from I.out.tick D D K.o);have S:=H (J.out.recv true (k:=9) D);have A5:=H (show Pr.Al (cG wZ) j7 (0+1+1+1+1+1+1+1+1+1)from S.out.shut true)
 go_enter Tryz.func8,Tryz.ntmps8
 go_wp2_with fail;refine HM.mono ?_;rintro e n⟨t,rfl,A,p⟩;have c:=H (show t7 w.heap.size t n t rY n from t7.start A);have HB:=H p;have b9:=H A;clear HM A p;have m:=c.cell 0 _ Z;go_wp2_with fail;refine(bS _ _ _ c.pa.a).mono ?_;rintro e f⟨rfl,rfl⟩;clear m;rw[e1];have m:=c.cell 6 _ Z;go_wp2_with fail;refine(bS _ _ _ c.pa.b).mono ?_;rintro e f⟨rfl,rfl⟩;clear m;rw[e2];have d:=cq _ _ _ _ _ _ c.pa s.out.run.1 (s.out.DE D).1 (s.out.DE D).2 s.out.ml (by have:=s.out.run.2;omega);rw[c.eB]at d;go_wp2_with fail;refine d.mono ?_;rintro e f⟨rfl,l,i⟩;have j:=H (show t7 w.heap.size t n l wh f from c.trans i);clear d c i;have c:=j;clear j;have m:=c.cell 0 _ Z;go_wp2_with fail;refine(bS _ _ _ c.pa.a).mono ?_;rintro e f⟨rfl,rfl⟩;clear m;rw[e3];have d:=cq _ _ _ _ _ _ c.pa C.out.run.1 (C.out.DE D).1 (C.out.DE D).2 C.out.ml (by have:=C.out.run.2;omega);rw[c.eB]at d;go_wp2_with fail;refine d.mono ?_;rintro e f⟨rfl,l,i⟩;have j:=H (show t7 w.heap.size t n l uP f from c.trans i);clear d c i;have c:=j;clear j;have m:=c.cell 6 _ Z;go_wp2_with fail;refine(bS _ _ _ c.pa.b).mono ?_;rintro e f⟨rfl,rfl⟩;clear m;rw[e4];have d:=jV _ _ _ false 3 _ _ _ c.pa M.out.run.1 (M.out.DE D).1 (M.out.DE D).2 M.out.ml D;rw[c.eB]at d;go_wp2_with fail;refine d.mono ?_;rintro e f⟨rfl,l,i⟩;have j:=H (show t7 w.heap.size t n l (uP.send false 3) f from c.trans i);clear d c i;have c:=j;clear j;have d:=cq _ _ _ _ _ _ c.pa E.out.run.1 (E.out.DE D).1 (E.out.DE D).2 E.out.ml (by have:=E.out.run.2;omega);rw[c.eB]at d;go_wp2_with fail;refine d.mono ?_;rintro e f⟨rfl,l,i⟩;have j:=H (show t7 w.heap.size t n l wi f from c.trans i);clear d c i;have c:=j;clear j;have d:=eD _ _ _ true 9 _ _ _ c.pa G.out.run.1 (G.out.DE D).1 (G.out.DE D).2 G.out.ml D (La (G.out.got true) D);rw[c.eB]at d;go_wp2_with fail;refine d.mono ?_;rintro e f⟨rfl,l,i⟩;have j:=H (show t7 w.heap.size t n l (wi.recv true 9) f from c.trans i);clear d c i;have c:=j;clear j;have d:=iE _ _ _ false _ _ _ c.pa P.out.run.1 (P.out.DE D).1 (P.out.DE D).2 P.out.ml;rw[c.eB]at d;go_wp2_with fail;refine d.mono ?_;rintro e f⟨rfl,l,i⟩;have j:=H (show t7 w.heap.size t n l ((wi.recv true 9).shut false) f from c.trans i);clear d c i;have c:=j;clear j;have d:=cq _ _ _ _ _ _ c.pa I.out.run.1 (I.out.DE D).1 (I.out.DE D).2 I.out.ml (by have:=I.out.run.2;omega);rw[c.eB]at d;go_wp2_with fail;refine d.mono ?_;rintro e f⟨rfl,l,i⟩;have j:=H (show t7 w.heap.size t n l zf f from c.trans i);clear d c i;have c:=j;clear j;have d:=eD _ _ _ true 9 _ _ _ c.pa J.out.run.1 (J.out.DE D).1 (J.out.DE D).2 J.out.ml D (La (J.out.got true) D);rw[c.eB]at d;go_wp2_with fail;refine d.mono ?_;rintro e f⟨rfl,l,i⟩;have j:=H (show t7 w.heap.size t n l (zf.recv true 9) f from c.trans i);clear d c i;have c:=j;clear j;have d:=iE _ _ _ true _ _ _ c.pa S.out.run.1 (S.out.DE D).1 (S.out.DE D).2 S.out.ml;rw[c.eB]at d;go_wp2_with fail;refine d.mono ?_;rintro e f⟨rfl,l,i⟩;have j:=H (show t7 w.heap.size t n l j7 f from c.trans i);clear d c i;have c:=j;clear j;have z9:=(c.cell 9 (.string ⟨j7.b.got.toArray⟩) Z).trans (show _=some (Value.string ⟨#[97,104,111]⟩) by rw[e5]);have cX:=(c.cell 10 j7.b.fin Z).trans (by rw[e6]);have m:=c.cell 6 _ Z;go_wp2_with fail;refine(bS _ _ _ c.pa.b).mono ?_;rintro e f⟨rfl,rfl⟩;clear m;rw[e7];clear z9 cX;go_wp2_with fail
 go_loopg [7] 70 (fun g iv wr=>∃(k:Nat) (tk:Ft),iv=((k:Int):Y)/\g+k=70/\t7 w.heap.size t n tk (Pr.ticks k j7) wr)
 case atStart=>exact⟨0,_,Z,O,c.o⟩
 case round =>
  obtain⟨k,tk,rfl,cY,T⟩:=hrel;clear c;have c:=H T;clear T;have B:=H ((Pr.Al.Ep K.o k A5.out D O).2);by_cases hk:k<70
  ·have ca:=H (tJ k j7);generalize Pr.ticks k j7=pk at c B ca;have d:=cq _ _ _ _ _ _ c.pa B.run.1 (B.DE O).1 (B.DE O).2 B.ml (by have:=B.run.2;omega);rw[c.eB]at d;have dp:(k:Int)<70:=by omega
   go_wp2_with fail;refine d.mono ?_;rintro e f⟨rfl,l,i⟩;have j:=H (c.trans i);clear d c i;have c:=j;clear j;go_wp2_with fail
   go_roundg (gk-1)
   case measure=>omega
   case rel=>exact⟨k+1,l,IV,O,by rw[ca.o];exact c.o⟩
  have a2:k=70:=O
  subst a2;have cb:=H (show t7 w.heap.size t n tk oT wr from c.o);clear c;have c:=cb;clear cb B;have m:=c.cell 0 _ Z;go_wp2_with fail;refine(bS _ _ _ c.pa.a).mono ?_;rintro e f⟨rfl,rfl⟩;clear m;rw[e8];have m:=c.cell 6 _ Z;go_wp2_with fail;refine(bS _ _ _ c.pa.b).mono ?_;rintro e f⟨rfl,rfl⟩;clear m;rw[e9];have m:=c.cell 0 _ Z;go_wp2_with fail;refine(qc _ _ _ c.pa.a).mono ?_;rintro e f⟨rfl,rfl⟩;clear m;rw[V];have m:=c.cell 6 _ Z;go_wp2_with fail;refine(qc _ _ _ c.pa.b).mono ?_;rintro e f⟨rfl,rfl⟩;clear m;rw[a1];have r:=H (HB.trans (c.fr.below HB.size b9.lo));clear c HB;have u:=vi 0 ⟨0,0,0,0,0,0⟩ wr D;go_wp2_with fail;refine u.mono ?_;rintro e wo⟨rfl,p⟩;replace r:=H (r.trans (p.mono r.size));clear p u;have u:=pm 0 ⟨0,0,0,0,0,0⟩ dE none 0 wo D (bE.nil _ _);go_wp2_with fail;refine u.mono ?_;rintro e wp⟨rfl,p⟩;replace r:=H (r.trans (p.mono r.size));clear p u;have u:=pj ⟨1,2,0,0,false,false,true,false,0,0,false,[],[]⟩ none 0 wp ⟨D,fun h=>absurd h D⟩ (.inr Z);go_wp2_with fail;refine u.mono ?_;rintro e a3⟨rfl,p⟩;replace r:=H (r.trans (p.mono r.size));clear p u;dsimp only[dY,dE];go_wp2_with fail;refine(tK _).mono ?_;rintro e f⟨rfl,rfl⟩;go_wp2_with fail;refine(zS _).mono ?_;rintro e f⟨rfl,rfl⟩;go_wp2;go_ret;exact⟨Z,r.alloc r.size _⟩
end
section
open Go.ChangeShapes Go.WideShapes Go.ChangeAt Go.RowKit
theorem D8.mono {N c:Nat}{a:Option Addr}{l:List Int}{w:World}(h:D8 N a l w)(d:N<=c):D8 c a l w :=
 ⟨h.small,h.Cq,fun f=>by
  obtain⟨b,o,e,g,i⟩:=h.cells f;exact⟨b,o,e,Ld g d,i⟩⟩
theorem D8.Gf {w:World}{a:Option Addr}{len cap K:Nat}{c:List Int}(h:mK .i64 w a len cap c)(p:K<=len)(j:K<=1000):D8 w.heap.size a (c.take K) w/\(c.take K).length=K:=by
 have hlen:K<=c.length:=by
  rcases h with⟨-,h1,h2,f⟩ | ⟨x,-,h1,h2,f,-⟩ <;> omega
 have d:(c.take K).length=K:=IX
 refine⟨⟨by rw[d];exact j,fun x g=> ?_,fun k=> ?_⟩,d⟩
 ·rcases h with⟨-,-,-,f⟩ | ⟨y,-,-,-,-,-,l⟩
  ·rw[f]at g;simp at g
  exact bounds_i64 (l x (Nl g))
 rw[d]at k;obtain⟨b,off,e,-,m,n⟩:=h.at O;refine⟨b,off,e,m,fun i hi=> ?_⟩;rw[d]at hi;have:=(n i O).1;rw[this,Nz,List.getD_eq_getElem?_getD,Nd O];rfl
theorem Af {w:World}{a:Option Addr}{len cap:Nat}{b:List Int}(h:mK .i64 w a len cap b):len<=cap/\cap<=maxLen:=by
 rcases h with⟨-,h1,h2,c⟩ | ⟨x,-,h1,h2,c,-⟩
 ·exact⟨O,J2⟩
 exact⟨h1,h2⟩
theorem wT {w w':World}{a:Option Addr}{len cap:Nat}{b:List Int}(h:mK .i64 w a len cap b){K:Nat}(d:K<=len)(e:K<=1000)(c:Below w.heap.size w w'):D8 w'.heap.size a (b.take K) w' :=
 (rD (D8.Gf h d e).1 c).mono c.size
end
section
set_option maxHeartbeats 8000000
set_option maxRecDepth 100000
open Go.RowKit Go.Shelf
def Pr.mid (p:Pr)(i:Bool):Pr:=(p.send i 1000).recv i 1000
def Pr.dn (p:Pr)(i:Bool):Bool:=Pr.E0 ((p.mid i).sd i) ((p.mid i).sd (!i))
def C6 (p:Pr):Nat->Pr
 | 0=>p
 | 1=>p.nv false
 | _=>p.Cm.1
def tL (p:Pr):Nat->Int
 | 0=>0
 | 1=>bI (p.dn false)
 | _=>bI (p.dn false)+bI ((p.nv false).dn true)
theorem Ag (p:Pr):p.Cm.2=(p.dn false&&(p.nv false).dn true):=rfl
theorem B7 {P:Pr.BX}{p:Pr}{n:Int}(h:Pr.Al P p n)(i:Bool):Pr.Al P (p.mid i) (n+2):=by
 have:=(h.send i 1000).recv i (k:=1000) D
 rwa [show n+1+1=n+2 by omega]at this
theorem kR {P:Pr.BX}{p:Pr}{n:Int}(h:Pr.Al P p n)(i:Bool):Pr.Al P (p.nv i) (n+3):=by
 have a:=B7 h i;unfold Pr.nv;dsimp only;split
 ·have:=a.shut i
  rwa [show n+2+1=n+3 by omega]at this
 exact a.mono O
theorem B8 {P:Pr.BX}(a:P.Ok){p:Pr}{n:Int}(h:Pr.Al P p n)(h0:0<=n):∀k:Nat,n+7*k<=5000->Pr.Al P (p.seq k) (n+7*k):=by
 intro k
 induction k with
 | zero=>intro _;rw[show n+7*((0:Nat):Int)=n by omega];exact h
 | succ k b =>
  intro c;have:=(kR (kR (b O) false) true).tick O O a;rw[show n+7*((k+1:Nat):Int)=n+7*k+3+3+1 by omega];exact this
theorem zT (N:Nat) (t:Ft) (P:Pr.BX) (p:Pr) (n:Int) (J M:Nat) (w:World) (h:C9 N t p w) (hA:Pr.Al P p n) (hP:P.Ok) (h0:0<=n) (hn:n+7*J+7<=5000) (hJ:J<M) (hM:M<=1000000) (he:(p.seq J).Cm.2=true) (a6:∀k,k<J->(p.seq k).Cm.2=false) :
  Calls Tryz.prog 11 #[t.B,.int .i64 M] w fun e w'=>e= .returned (.int .i64 J)/\Ao N t w (p.seq J).Cm.1 w':=by
 have bv:=H h;have HP:=H hP;have b4:=H (show ∀k:Nat,k<=J->Pr.Al P (p.seq k) (n+7*k)from fun k hk=>B8 hP hA h0 k O);have HE:=H he;have d8:=H a6;clear h hP hA he a6
 go_enter Tryz.func11,Tryz.ntmps11
 go_wp2_with fail
 go_loopg [5] (J+1) (fun g iv wr=>∃(k:Nat) (tk:Ft),iv=((k:Int):Y)/\g+k=J+1/\k<=J/\t7 N t w tk (p.seq k) wr)
 case atStart=>exact⟨0,t,Z,O,O,t7.start bv.o⟩
 case round =>
  obtain⟨k,tk,rfl,cY,d9,a9⟩:=hrel;have ds:(k:Int)<(M:Int):=O
  have b9:=H a9;have ba:=H (b4.o k d9);have b0:0<=n+7*(k:Int)/\n+7*(k:Int)+7<=5000:=O
  clear a9;obtain⟨q,hq⟩:∃q,q=p.seq k:=⟨_,Z⟩;have HQ:=H hq;rw[<-hq]at b9 ba;clear hq;obtain⟨m,hm⟩:∃m,m=n+7*(k:Int):=⟨_,Z⟩;rw[<-hm]at ba b0;clear hm;obtain⟨da,b8⟩:=b0;go_wp2_with fail
  go_loopg [6,7] 2 (fun g dv iv wr=>∃(j:Nat) (tj:Ft),dv=(tL q j:Y)/\iv=((j:Int):Y)/\g+j=2/\t7 N t w tj (C6 q j) wr)
  case atStart=>exact⟨0,tk,Z,Z,Z,b9.o⟩
  case round =>
   obtain⟨j,tj,rfl,rfl,eL,a2⟩:=hrel;have bx:j=0\/j=1\/j=2:=O
   clear b9
   rcases bx with cf | b5 | cF
   ·subst cf;have d:=H a2;clear a2;have f:=ba;obtain⟨u,hu⟩:∃u,u=q:=⟨_,Z⟩;have HU:=H hu;replace d:=H (show t7 N t w tj u wr from by rw[HU.o];exact d.o);rw[<-hu]at f;clear hu;go_wp2_with fail;show Calls _ _ #[_,(bI false),_] _ _;have G:=jV N tj _ false 1000 _ _ _ d.pa f.run.1 (f.DE O).1 (f.DE O).2 f.ml D;rw[d.eB]at G;refine G.mono ?_;rintro e w3⟨rfl,t3,U⟩;replace d:=H (d.trans U);clear G U;replace f:=H (f.send false 1000);go_wp2_with fail;show Calls _ _ #[_,(bI false),_] _ _;have G:=eD N t3 _ false 1000 _ _ _ d.pa f.run.1 (f.DE O).1 (f.DE O).2 f.ml D (La (f.got false) D);rw[d.eB]at G;refine G.mono ?_;rintro e I⟨rfl,A,U⟩;replace d:=H (d.trans U);clear G U;replace f:=H (f.recv false (k:=1000) D);replace d:=H (show t7 N t w A (u.mid false) I from d.o);replace f:=H (show Pr.Al P (u.mid false) _ from f.o);have S:=H (show u.nv false=if(u.mid false).a.sent=((u.mid false).a.all.length:Int)/\(u.mid false).a.c.st≠1 then(u.mid false).shut false else u.mid false from Z);have K:=H (show u.dn false=((u.mid false).a.fin&&decide ((u.mid false).a.got.length=(u.mid false).b.all.length))from Z);have a7:=H (show ∀r,r=u.mid false\/r=(u.mid false).shut false->r.b.all=(u.mid false).b.all from fun r hr=>by rcases hr with rfl | rfl;rfl;exact(kO (u.mid false) false true).2);generalize u.mid false=v at d f S K a7;have y0:I.cell? t.B=some (A.fa.C:Y):=d.cell 0 _ Z;have y1:I.cell? ⟨t.B,1,none⟩=some (.string ⟨v.a.all.toArray⟩):=d.cell 1 _ Z;have y2:I.cell? ⟨t.B,2,none⟩=some (v.a.sent:Y):=d.cell 2 _ Z;have y3:I.cell? ⟨t.B,3,none⟩=some (.string ⟨v.a.got.toArray⟩):=d.cell 3 _ Z;have y4:I.cell? ⟨t.B,4,none⟩=some (v.a.fin:Y):=d.cell 4 _ Z;have y5:I.cell? ⟨t.B,5,none⟩=some (v.a.closed:Y):=d.cell 5 _ Z
    go_upto_region 11 with fail
    clear y0 y1 y2 y3 y4 y5;change Code.wp _ _ _ _ (I.alloc (.cells (pU A.fa v.a).toArray 34));replace d:=H (Ps.new d.o A.fa v.a);generalize hF:I.heap.size=F at d|-;generalize I.alloc (.cells (pU A.fa v.a).toArray 34)=w5 at d|-;clear hF;have x1:=d.row.cell 1 _ Z;have x2:=d.row.cell 2 _ Z;have hz:(⟨v.a.all.toArray⟩:ByteArray).size=v.a.all.length:=IQ
    by_cases l:v.a.sent=(v.a.all.length:Int)
    focus
     have T:(v.a.sent==(v.a.all.length:Int))=true:=Me.2 l;have HX:=H l;clear l;have x0:=d.row.cell 0 _ Z;go_wp2_with fail;refine(bS A.fa v.a.c _ d.st.pa.a).mono ?_;rintro e wq⟨rfl,rfl⟩;by_cases s:v.a.c.st=1
     focus
      have a0:(v.a.c.st != 1)=false:=by rw[s];rfl
      have HY:=H s;clear s;have aa:=H (show ∃E,Ps N t w F A.fa v.a E (u.nv false) w5 from⟨A,by rw[S.o,L7 (fun g=>g.2 HY.o)];exact d.o⟩);have ag:=H (show(u.nv false).b.all=v.b.all from a7.o _ Pg);clear d f S a7
      go_upto_region 13 with fail
      generalize w5=wc at aa|-;clear T a0 HX HY x0 x1 x2 hz
     rotate_left 1
     focus
      have a0:(v.a.c.st != 1)=true:=Ph
      have HY:=H s;clear s;go_wp2_with fail;show Calls _ _ #[_,(bI false)] _ _;have G:=iE N A _ false _ _ _ d.st.pa f.run.1 (f.DE O).1 (f.DE O).2 f.ml;rw[d.st.eB]at G;refine G.mono ?_;rintro e w6⟨rfl,t5,U⟩;replace d:=H (d.step U);clear G U x0 x1 x2;have aa:=H (show ∃E,Ps N t w F A.fa v.a E (u.nv false) w6 from⟨t5,by rw[S.o,L9 ⟨HX.o,HY.o⟩];exact d.o⟩);have ag:=H (show(u.nv false).b.all=v.b.all from a7.o _ Pg);clear d f S a7
      go_upto_region 13 with fail
      generalize w6=wc at aa|-;clear T a0 HX HY hz
    rotate_left 2
    focus
     have T:(v.a.sent==(v.a.all.length:Int))=false:=Ln.2 l;have HX:=H l;clear l;have aa:=H (show ∃E,Ps N t w F A.fa v.a E (u.nv false) w5 from⟨A,by rw[S.o,L7 (fun g=>HX.o g.1)];exact d.o⟩);have ag:=H (show(u.nv false).b.all=v.b.all from a7.o _ Pg);clear d f S a7
     go_upto_region 13 with fail
     generalize w5=wc at aa|-;clear T HX x1 x2 hz
    all_goals
     obtain⟨E,a4⟩:=aa.o;have d:=H a4;clear a4 aa;have b6:(⟨v.a.got.toArray⟩:ByteArray).size=v.a.got.length:=IQ
     have b7:(⟨v.b.all.toArray⟩:ByteArray).size=v.b.all.length:=IQ
     by_cases i:v.a.fin=true
     ·have ab:=H i;rw[i]at K;clear i;by_cases hg:v.a.got.length=v.b.all.length
      ·have hd:decide (v.a.got.length=v.b.all.length)=true:=Le hg;rw[hd]at K;clear hd;refine az (fun W:World=>W.cell? ⟨F,4,none⟩=some (true:Y)/\W.cell? ⟨F,3,none⟩=some (.string ⟨v.a.got.toArray⟩)/\W.cell? ⟨t.B,7,none⟩=some (.string ⟨v.b.all.toArray⟩)) (⟨(d.row.cell 4 v.a.fin Z).trans (by rw[ab.o]),d.row.cell 3 _ Z,(d.st.cell 7 (.string ⟨(u.nv false).b.all.toArray⟩) Z).trans (by rw[ag.o])⟩) fun V=>?_;replace d:=H (d.qn (L5 _ _).drew);generalize wc.drew=wd at d V|-;refine aA 0 1 2 3 ?_;refine aA 4 5 6 7 ?_;refine aQ 8 (v:=.int .i64 1) ?_ (hy:=Py);refine aA 9 10 11 12 ?_;refine aA 13 14 15 16 ?_;refine ay ?_ _;clear V
       skip
       go_wp2_with fail
       go_roundg (gk-1)
       case measure=>omega
       case rel=>exact⟨1,E,by have e:tL q 1=bI true:=PH;rw[e];have h1:bI true=1:=Z;have h2:bI false=0:=Z;have h3:tL q 0=0:=Z;first | rfl | (congr 1;(try unfold wrap64);omega),IU,O,PK⟩
      ·have hd:decide (v.a.got.length=v.b.all.length)=false:=Lh hg;rw[hd]at K;clear hd;refine az (fun W:World=>W.cell? ⟨F,4,none⟩=some (true:Y)/\W.cell? ⟨F,3,none⟩=some (.string ⟨v.a.got.toArray⟩)/\W.cell? ⟨t.B,7,none⟩=some (.string ⟨v.b.all.toArray⟩)) (⟨(d.row.cell 4 v.a.fin Z).trans (by rw[ab.o]),d.row.cell 3 _ Z,(d.st.cell 7 (.string ⟨(u.nv false).b.all.toArray⟩) Z).trans (by rw[ag.o])⟩) fun V=>?_;replace d:=H (d.qn (L5 _ _).drew);generalize wc.drew=wd at d V|-;refine aA 0 1 2 3 ?_;refine aA 4 5 6 7 ?_;refine aQ 8 (v:=.int .i64 1) ?_ (hy:=Py);refine aA 9 10 11 12 ?_;refine aA 13 14 15 16 ?_;refine ay ?_ _;clear V
       skip
       go_wp2_with fail
       go_roundg (gk-1)
       case measure=>omega
       case rel=>exact⟨1,E,Q2,IU,O,PK⟩
     ·replace i:v.a.fin=false:=by simpa using i
      have ab:=H i;rw[i]at K;clear i;refine az (fun W:World=>W.cell? ⟨F,4,none⟩=some (false:Y)/\W.cell? ⟨F,3,none⟩=some (.string ⟨v.a.got.toArray⟩)/\W.cell? ⟨t.B,7,none⟩=some (.string ⟨v.b.all.toArray⟩)) (⟨(d.row.cell 4 v.a.fin Z).trans (by rw[ab.o]),d.row.cell 3 _ Z,(d.st.cell 7 (.string ⟨(u.nv false).b.all.toArray⟩) Z).trans (by rw[ag.o])⟩) fun V=>?_;replace d:=H (d.qn (L5 _ _).drew);generalize wc.drew=wd at d V|-;refine aM 0 1 ?_;refine aQ 2 ?_;refine aU 3 ?_;refine aU 4 ?_;refine aU 5 ?_;refine aU 6 ?_;refine aU 7 ?_;refine aU 8 ?_;refine aU 9 ?_;refine aU 10 ?_;refine aU 11 ?_;refine aU 12 ?_;refine aU 13 ?_;refine aU 14 ?_;refine aU 15 ?_;refine aQ 16 ?_;refine ay ?_ _;clear V;go_wp2_with fail
      go_roundg (gk-1)
      case measure=>omega
      case rel=>exact⟨1,E,Q2,IU,O,PK⟩
   ·subst b5;have d:=H a2;clear a2;have f:=H (kR ba.o false);obtain⟨u,hu⟩:∃u,u=q.nv false:=⟨_,Z⟩;have HU:=H hu;replace d:=H (show t7 N t w tj u wr from by rw[HU.o];exact d.o);rw[<-hu]at f;replace da:0<=m+3:=by omega
    clear hu;go_wp2_with fail;show Calls _ _ #[_,(bI true),_] _ _;have G:=jV N tj _ true 1000 _ _ _ d.pa f.run.1 (f.DE O).1 (f.DE O).2 f.ml D;rw[d.eB]at G;refine G.mono ?_;rintro e w3⟨rfl,t3,U⟩;replace d:=H (d.trans U);clear G U;replace f:=H (f.send true 1000);go_wp2_with fail;show Calls _ _ #[_,(bI true),_] _ _;have G:=eD N t3 _ true 1000 _ _ _ d.pa f.run.1 (f.DE O).1 (f.DE O).2 f.ml D (La (f.got true) D);rw[d.eB]at G;refine G.mono ?_;rintro e I⟨rfl,A,U⟩;replace d:=H (d.trans U);clear G U;replace f:=H (f.recv true (k:=1000) D);replace d:=H (show t7 N t w A (u.mid true) I from d.o);replace f:=H (show Pr.Al P (u.mid true) _ from f.o);have S:=H (show u.nv true=if(u.mid true).b.sent=((u.mid true).b.all.length:Int)/\(u.mid true).b.c.st≠1 then(u.mid true).shut true else u.mid true from Z);have K:=H (show u.dn true=((u.mid true).b.fin&&decide ((u.mid true).b.got.length=(u.mid true).a.all.length))from Z);have a7:=H (show ∀r,r=u.mid true\/r=(u.mid true).shut true->r.a.all=(u.mid true).a.all from fun r hr=>by rcases hr with rfl | rfl;rfl;exact(kO (u.mid true) true false).2);generalize u.mid true=v at d f S K a7;have y0:I.cell? ⟨t.B,6,none⟩=some (A.fb.C:Y):=d.cell 6 _ Z;have y1:I.cell? ⟨t.B,7,none⟩=some (.string ⟨v.b.all.toArray⟩):=d.cell 7 _ Z;have y2:I.cell? ⟨t.B,8,none⟩=some (v.b.sent:Y):=d.cell 8 _ Z;have y3:I.cell? ⟨t.B,9,none⟩=some (.string ⟨v.b.got.toArray⟩):=d.cell 9 _ Z;have y4:I.cell? ⟨t.B,10,none⟩=some (v.b.fin:Y):=d.cell 10 _ Z;have y5:I.cell? ⟨t.B,11,none⟩=some (v.b.closed:Y):=d.cell 11 _ Z
    go_upto_region 11 with fail
    clear y0 y1 y2 y3 y4 y5;change Code.wp _ _ _ _ (I.alloc (.cells (pU A.fb v.b).toArray 34));replace d:=H (Ps.new d.o A.fb v.b);generalize hF:I.heap.size=F at d|-;generalize I.alloc (.cells (pU A.fb v.b).toArray 34)=w5 at d|-;clear hF;have x1:=d.row.cell 1 _ Z;have x2:=d.row.cell 2 _ Z;have hz:(⟨v.b.all.toArray⟩:ByteArray).size=v.b.all.length:=IQ
    by_cases l:v.b.sent=(v.b.all.length:Int)
    focus
     have T:(v.b.sent==(v.b.all.length:Int))=true:=Me.2 l;have HX:=H l;clear l;have x0:=d.row.cell 0 _ Z;go_wp2_with fail;refine(bS A.fb v.b.c _ d.st.pa.b).mono ?_;rintro e wq⟨rfl,rfl⟩;by_cases s:v.b.c.st=1
     focus
      have a0:(v.b.c.st != 1)=false:=by rw[s];rfl
      have HY:=H s;clear s;have aa:=H (show ∃E,Ps N t w F A.fb v.b E (u.nv true) w5 from⟨A,by rw[S.o,L7 (fun g=>g.2 HY.o)];exact d.o⟩);have ag:=H (show(u.nv true).a.all=v.a.all from a7.o _ Pg);clear d f S a7
      go_upto_region 13 with fail
      generalize w5=wc at aa|-;clear T a0 HX HY x0 x1 x2 hz
     rotate_left 1
     focus
      have a0:(v.b.c.st != 1)=true:=Ph
      have HY:=H s;clear s;go_wp2_with fail;show Calls _ _ #[_,(bI true)] _ _;have G:=iE N A _ true _ _ _ d.st.pa f.run.1 (f.DE O).1 (f.DE O).2 f.ml;rw[d.st.eB]at G;refine G.mono ?_;rintro e w6⟨rfl,t5,U⟩;replace d:=H (d.step U);clear G U x0 x1 x2;have aa:=H (show ∃E,Ps N t w F A.fb v.b E (u.nv true) w6 from⟨t5,by rw[S.o,L9 ⟨HX.o,HY.o⟩];exact d.o⟩);have ag:=H (show(u.nv true).a.all=v.a.all from a7.o _ Pg);clear d f S a7
      go_upto_region 13 with fail
      generalize w6=wc at aa|-;clear T a0 HX HY hz
    rotate_left 2
    focus
     have T:(v.b.sent==(v.b.all.length:Int))=false:=Ln.2 l;have HX:=H l;clear l;have aa:=H (show ∃E,Ps N t w F A.fb v.b E (u.nv true) w5 from⟨A,by rw[S.o,L7 (fun g=>HX.o g.1)];exact d.o⟩);have ag:=H (show(u.nv true).a.all=v.a.all from a7.o _ Pg);clear d f S a7
     go_upto_region 13 with fail
     generalize w5=wc at aa|-;clear T HX x1 x2 hz
    all_goals
     obtain⟨E,a4⟩:=aa.o;have d:=H a4;clear a4 aa;have b6:(⟨v.b.got.toArray⟩:ByteArray).size=v.b.got.length:=IQ
     have b7:(⟨v.a.all.toArray⟩:ByteArray).size=v.a.all.length:=IQ
     by_cases i:v.b.fin=true
     ·have ab:=H i;rw[i]at K;clear i;by_cases hg:v.b.got.length=v.a.all.length
      ·have hd:decide (v.b.got.length=v.a.all.length)=true:=Le hg;rw[hd]at K;clear hd;refine az (fun W:World=>W.cell? ⟨F,4,none⟩=some (true:Y)/\W.cell? ⟨F,3,none⟩=some (.string ⟨v.b.got.toArray⟩)/\W.cell? ⟨t.B,1,none⟩=some (.string ⟨v.a.all.toArray⟩)) (⟨(d.row.cell 4 v.b.fin Z).trans (by rw[ab.o]),d.row.cell 3 _ Z,(d.st.cell 1 (.string ⟨(u.nv true).a.all.toArray⟩) Z).trans (by rw[ag.o])⟩) fun V=>?_;replace d:=H (d.qn (L5 _ _).drew);generalize wc.drew=wd at d V|-;refine aA 0 1 2 3 ?_;refine aA 4 5 6 7 ?_;refine aQ 8 (v:=.int .i64 0) ?_ (hy:=Py);refine aA 9 10 11 12 ?_;refine aA 13 14 15 16 ?_;refine ay ?_ _;clear V
       skip
       go_wp2_with fail
       go_roundg (gk-1)
       case measure=>omega
       case rel=>exact⟨2,E,by have e:tL q 2=bI (q.dn false)+bI true:=PJ;rw[e];have h0:bI (q.dn false)=0\/bI (q.dn false)=1:=Ky;have h1:bI true=1:=Z;have h2:bI false=0:=Z;have h3:tL q 1=bI (q.dn false):=Z;first | rfl | (congr 1;(try unfold wrap64);omega),IU,O,PL⟩
      ·have hd:decide (v.b.got.length=v.a.all.length)=false:=Lh hg;rw[hd]at K;clear hd;refine az (fun W:World=>W.cell? ⟨F,4,none⟩=some (true:Y)/\W.cell? ⟨F,3,none⟩=some (.string ⟨v.b.got.toArray⟩)/\W.cell? ⟨t.B,1,none⟩=some (.string ⟨v.a.all.toArray⟩)) (⟨(d.row.cell 4 v.b.fin Z).trans (by rw[ab.o]),d.row.cell 3 _ Z,(d.st.cell 1 (.string ⟨(u.nv true).a.all.toArray⟩) Z).trans (by rw[ag.o])⟩) fun V=>?_;replace d:=H (d.qn (L5 _ _).drew);generalize wc.drew=wd at d V|-;refine aA 0 1 2 3 ?_;refine aA 4 5 6 7 ?_;refine aQ 8 (v:=.int .i64 0) ?_ (hy:=Py);refine aA 9 10 11 12 ?_;refine aA 13 14 15 16 ?_;refine ay ?_ _;clear V
       skip
       go_wp2_with fail
       go_roundg (gk-1)
       case measure=>omega
       case rel=>exact⟨2,E,Q3,IU,O,PL⟩
     ·replace i:v.b.fin=false:=by simpa using i
      have ab:=H i;rw[i]at K;clear i;refine az (fun W:World=>W.cell? ⟨F,4,none⟩=some (false:Y)/\W.cell? ⟨F,3,none⟩=some (.string ⟨v.b.got.toArray⟩)/\W.cell? ⟨t.B,1,none⟩=some (.string ⟨v.a.all.toArray⟩)) (⟨(d.row.cell 4 v.b.fin Z).trans (by rw[ab.o]),d.row.cell 3 _ Z,(d.st.cell 1 (.string ⟨(u.nv true).a.all.toArray⟩) Z).trans (by rw[ag.o])⟩) fun V=>?_;replace d:=H (d.qn (L5 _ _).drew);generalize wc.drew=wd at d V|-;refine aM 0 1 ?_;refine aQ 2 ?_;refine aU 3 ?_;refine aU 4 ?_;refine aU 5 ?_;refine aU 6 ?_;refine aU 7 ?_;refine aU 8 ?_;refine aU 9 ?_;refine aU 10 ?_;refine aU 11 ?_;refine aU 12 ?_;refine aU 13 ?_;refine aU 14 ?_;refine aU 15 ?_;refine aQ 16 ?_;refine ay ?_ _;clear V;go_wp2_with fail
      go_roundg (gk-1)
      case measure=>omega
      case rel=>exact⟨2,E,Q3,IU,O,PL⟩
   subst cF;have d:=H a2;clear a2;replace d:=H (show t7 N t w tj q.Cm.1 wr from d.o);have f:=H (kR (kR ba.o false) true);replace f:=H (show Pr.Al P q.Cm.1 _ from f.o);have c0:=H (Ag q);have HK:=H (show tL q 2=bI (q.dn false)+bI ((q.nv false).dn true)from Z);generalize tL q 2=dv at HK|-;by_cases b1:k=J
   ·have eS:=H b1;subst b1;have b2:dv=2:=by rw[HK.o];have h1:=HE.o;rw[<-HQ.o,c0.o,LD]at h1;rw[h1.1,h1.2];rfl
    subst b2;go_wp2;go_ret;exact⟨Z,tj,by rw[<-HQ.o];exact d.o⟩
   have b2:(dv==2)=false:=by rw[HK.o];have h1:=d8.o k O;rw[<-HQ.o,c0.o]at h1;cases h2:q.dn false <;> cases h3:(q.nv false).dn true <;> first | rfl | (rw[h2,h3]at h1;cases h1)
   clear HK c0;go_wp2_with fail;have c1:=vg N tj q.Cm.1 wr _ _ d.pa f.run.1 f.v.1 f.v.2.1;rw[d.eB]at c1;refine c1.mono ?_;rintro e I⟨rfl,b3⟩;replace d:=H (d.qn b3);clear b3 c1;go_wp2_with fail;have ak:=cq N tj q.Cm.1 I _ _ d.pa f.run.1 (f.DE O).1 (f.DE O).2 f.ml (by have:=f.run.2;omega);rw[d.eB]at ak;refine ak.mono ?_;rintro e w5⟨rfl,t5,k5⟩;replace d:=H (d.trans k5);clear ak k5;go_wp2_with fail
   go_roundg (J-k)
   case measure=>omega
   case rel=>exact⟨k+1,t5,IV,O,O,by show t7 N t w t5 ((p.seq k).Cm.1.tick) w5;rw[<-HQ.o];exact d.o⟩
end
section
set_option maxHeartbeats 8000000
set_option maxRecDepth 100000
open Go.ChangeShapes Go.WideShapes Go.ChangeAt Go.RowKit Go.Shelf
structure Rl (N:Nat)(t:Ft)(w:World)(t1:Ft)(q:Pr)(L:List bH)(v:Value)(W:World):Prop where
 st:t7 N t w t1 q W
 l:bJ W N v L
 nl:∀k,v.ownBlock=some k->¬t1.D k/\w.heap.size<=k
namespace Rl
variable {N : Nat} {t t1 t2 : Ft} {q q' : Pr} {L : List bH} {v : Value} {w W W' : World}
theorem qn (h:Rl N t w t1 q L v W)(a:Below W.heap.size W W'):Rl N t w t1 q L v W':=⟨h.st.qn a,h.l.below a,h.nl⟩
theorem pair (h:Rl N t w t1 q L v W)(k:t7 N t1 W t2 q' W'):Rl N t w t2 q' L v W' :=
 ⟨h.st.trans k,h.l.keep k.fr.size k.fr.sp (fun x e=>k.fr.block x (h.l.lt x e).2 (h.nl x e).1),fun x e=>⟨fun a=>by
  rcases k.sub x a with h1 | h1
  ·exact(h.nl x e).1 h1
  ·have:=(h.l.lt x e).2;omega,(h.nl x e).2⟩⟩
theorem new {v':Value}(h:t7 N t w t1 q W)(b:bJ W' N v' ([]++L))(c:W.grownBy W' (Value.slice none 0 0).ownBlock)(d:v'.ownBlock=(Value.slice none 0 0).ownBlock\/∃k,v'.ownBlock=some k/\W.heap.size<=k):Rl N t w t1 q L v' W' :=
 ⟨Dl.I8 h (bJ.nil W N) (fun k e=>nomatch e) c,b,fun k e=>by
  rcases d with a | ⟨g,a,h2⟩
  ·rw[a]at e
   cases e
  ·rw[a]at e
   cases e
   exact⟨fun f=>by have:=Dl.I9 h _ f;omega,La h.size h2⟩⟩
end Rl
structure Rf (N:Nat)(t:Ft)(w:World)(t1:Ft)(q:Pr)(L:List bH)(v:Value)(F:Nat)(x:bH)(W:World):Prop where
 r:Rl N t w t1 q L v W
 row:aP F x W
 nd:¬t1.D F
 bl:bE W x.2.1 x.1.s.bl
namespace Rf
variable {N F : Nat} {t t1 t2 : Ft} {q q' : Pr} {L : List bH} {v : Value} {x : bH} {w W W' : World}
theorem new (h:Rl N t w t1 q L v W)(b:bE W x.2.1 x.1.s.bl):Rf N t w t1 q L v W.heap.size x (W.alloc (.cells (dC x).toArray 55)):=by
 have a:=(L5 W.heap.size W).alloc (L6 _) (.cells (dC x).toArray 55);exact⟨h.qn a,aP.new W x,fun e=>MG _ (h.st.pa.GC _ e).1,b.keep a.size (aG.below a)⟩
theorem qn (h:Rf N t w t1 q L v F x W)(a:Below W.heap.size W W'):Rf N t w t1 q L v F x W':=⟨h.r.qn a,h.row.below a,h.nd,h.bl.keep a.size (aG.below a)⟩
theorem pair (h:Rf N t w t1 q L v F x W)(k:t7 N t1 W t2 q' W'):Rf N t w t2 q' L v F x W' :=
 ⟨h.r.pair k,(k.fr.block F h.row.lt h.nd).trans h.row,fun e=>by
  rcases k.sub F e with h1 | h1
  ·exact h.nd h1
  ·exact MG _ (Ld h.row.lt h1),h.bl.keep k.fr.size k.fr.sp⟩
end Rf
theorem im {W:World}{F:Nat}{x:bH}(h:aP F x W):W.rangeAt F 3 (aX (x.1.s,x.2.1,x.2.2)):=fun j v a=>by
 have b:=(MO.1 a).1
 exact h.cell (3+j) v (by
  rw[show dC x=[(bI x.1.dst:Y),x.1.due,x.1.held]++aX (x.1.s,x.2.1,x.2.2)from Z,Mk (by show 3<=_;omega)];rw[show 3+j-[Value.int .i64 (bI x.1.dst),x.1.due,x.1.held].length=j by show 3+j-3=j;omega];exact a)
theorem fi (W:World) (x:Rw) (hx:x.In) (nn:Int) (c0:(Lit.int .i64 nn).wf=true) (mm:Int) (c1:(Lit.int .i64 mm).wf=true) (a1:Option Addr) (U b7:Nat) (zs:List Int) (h1:mK .i64 W a1 U b7 zs) (gl:Gl W) :
  Calls Tryz.prog 5 #[.agg (lY x).toArray,nn,mm,.slice a1 U b7] W fun e W'=>e= .returned true/\Below W.heap.size W W':=by
 have bb:=H h1;have e5:=Af h1;clear h1;have HX:=H hx;have HG:=H gl;have HI:=H (show aI nn/\aI mm from And.intro (bounds_i64 c0) (bounds_i64 c1));clear c0 c1;clear hx gl;have HR:=H (zc.new W 23 (lY x));have HB:=H ((L5 W.heap.size W).alloc (L6 _) (.cells (lY x).toArray 23))
 go_enter Tryz.func5,Tryz.ntmps5
 go_upto_region 1 with fail
 change Code.wp _ _ _ _ (W.alloc (.cells (lY x).toArray 23));obtain⟨W0,c2⟩:∃W0,W0=W.heap.size:=⟨_,Z⟩;rw[<-c2]at HR|-;clear c2;generalize W.alloc (.cells (lY x).toArray 23)=w1 at HR HB|-;go_wp2_with fail;refine(wS _ (HG.below (HB.mono HG.top))).mono ?_;rintro e w2⟨rfl,hb⟩;replace HR:=H (HR.below hb);replace HB:=H (HB.trans (hb.mono HB.size));clear hb
 go_upto_region 2 with fail
 have b8:=ah nn 500 D;have T:=ah mm 500 D;obtain⟨nA,hA⟩:∃nA:Nat,aO nn 500=(nA:Int):=⟨(aO nn 500).toNat,O⟩;obtain⟨nB,hB⟩:∃nB:Nat,aO mm 500=(nB:Int):=⟨(aO mm 500).toNat,O⟩;rw[hA]at b8;rw[hB]at T;have ch:=H hA;have ci:=H hB;clear hA hB;obtain⟨-,b8⟩:=b8;obtain⟨-,T⟩:=T;refine az (fun W':World=>zc W0 23 (lY x) W') (HR.o) fun E=>?_;replace HR:=H (HR.below (L5 _ _).drew);replace HB:=H HB.drew;generalize w2.drew=w3 at HR HB E|-;have cl:=H (show Calls Tryz.prog 10 #[.agg #[x.DL,x.Eb,x.go,x.xb,x.x4,x.keep],.slice none 0 0,(nA:Int),(nB:Int)] w3 (yj x [] nA nB w3)from mw x [] none 0 nA nB w3 HX.o (HG.below (HB.mono HG.top)) ⟨D,(fun _ h=>nomatch h),(fun h=>absurd h D)⟩ O O);refine rm 0 (lY x) (fun _ h=>zc.range h) Tryz.underlying23 IL ?_ (y:=by((try simp only[Act.put,Lf,Lk,Lm,lY]);(try rfl)));refine aM 1 3 ?_;refine aY 2 fun S u=> ?_;go_simp;refine(cz nn 500 _ HI.1 D D).mono ?_;rintro e wx⟨rfl,rfl⟩;rw[ch.o];go_simp;refine u.out _ _ (HR.o) ?_;clear u S E;refine fun E=>aW ?_;refine aY 4 fun S u=> ?_;go_simp;refine(cz mm 500 _ HI.2 D D).mono ?_;rintro e wx⟨rfl,rfl⟩;rw[ci.o];go_simp;refine u.out _ _ (HR.o) ?_;clear u S E;refine fun E=>aW ?_;refine aY 5 fun S u=> ?_;go_simp;refine(cl.o).mono ?_;rintro e w4⟨t,rfl,d4,hb⟩;replace HR:=H (HR.below hb);have bv:=H d4;have dc:=H HB.size;replace HB:=H (HB.trans (hb.mono HB.size));clear hb d4;go_simp;refine u.out _ _ (HR.o) ?_;clear u S E;refine fun E=>aW ?_;refine aA 6 7 8 9 ?_;refine aQ 10 ?_;refine ay ?_ _;clear E cl HR ch ci;have HP:=H (eI x);have a7:=H (kF x [] nA nB D O O);obtain⟨J,hJ,cF,bx,cn⟩:=Ae x (n:=nA) (m:=nB) O O;have ab:=zT w3.heap.size t (cG x) (eK x [] nA nB) 0 J 1500 w4 bv.o a7.o HP.o (Lb 0) O O D cF bx;clear cF bx a7;have bc:=H cn;clear cn;generalize ((eK x [] nA nB).seq J).Cm.1=p5 at ab bc;generalize ph nA nB=NN at bc;generalize cs:(fun i:Bool=>dV (if i=true then 1 else 0) (if i=true then nB else nA))=AA at bc;have e0:=H cs;clear cs;go_wp2_with fail;refine ab.mono ?_;clear ab;rintro e w5⟨rfl,t5,k5⟩;have d:=H k5;clear k5;go_wp2_with fail
 go_loopg [13] 90 (fun g iv wr=>∃(k:Nat) (I:Ft) (p:Pr),iv=((k:Int):Y)/\g+k=90/\t7 w3.heap.size t w4 I p wr/\Rp (cG x) NN AA p (3500+k))
 case atStart=>exact⟨0,t5,p5,Z,Z,d.o,bc.o⟩
 clear d bc
 case round =>
  obtain⟨k,I,p,rfl,cY,a5,b0⟩:=hrel;have d:=H a5;have P:=H b0;clear a5 b0;by_cases hk:k<90
  ·have ea:(k:Int)<90:=by omega
   go_wp2_with fail;have ak:=cq w3.heap.size I p wr _ _ d.pa P.ga.al.run.1 (P.ga.al.DE O).1 (P.ga.al.DE O).2 P.ga.al.ml (by have:=P.ga.al.run.2;omega);rw[d.eB]at ak;refine ak.mono ?_;rintro e w6⟨rfl,t6,k6⟩;replace d:=H (d.trans k6);clear ak k6;go_wp2_with fail
   go_roundg (gk-1)
   case measure=>omega
   case rel=>exact⟨k+1,t6,_,IV,O,d.o,by have:=(P.tick HP.o O O).1;rw[show 3500+(k:Int)+1=3500+((k+1:Nat):Int) by omega]at this;exact this⟩
  have d5:k=90:=O
  subst d5;obtain⟨M,hM,how⟩:=d.pa.log;have di:0<M.length:=by obtain⟨f,hf⟩:=P.lp.ne;rw[<-hM]at hf;obtain⟨y,hy,-⟩:=Mg.1 hf;exact List.length_pos_of_mem hy
  obtain⟨g,cg,cL,-,d6,-,a3⟩:=how.cells di;have e6:M.length<=500000000000:=by have h1:=P.ga.al.run.1.llen;rw[<-hM,LM]at h1;omega
  have b6:=H (show ∀y∈M,y.1∈p.log from fun y hy=>by rw[<-hM];exact Nq hy);clear hM;have d9:wr.cell? ⟨t.B,16,none⟩=some (.slice (some ⟨g,0,none⟩) M.length cg):=by have:=d.cell 16 I.vL Z;rwa [cL]at this
  have cw:=H a3;have dT:=H how.2;clear cL d6 a3 how
  go_wp2_with (at_builtin;refine cd _ Z _ _ Z w3.heap.size _ [] Z (bJ.nil _ _) g 0 cg M Z cw.o dT.o (by show 0+M.length<=_;omega) d.pa.big ?_)
  clear d9;intro v4 w7 ho hg hb;have HL:=H (Rl.new d.o ho hg hb);clear ho hg hb cw dT d;obtain⟨aC,cC,dk⟩:=HL.l.val';subst dk;have ax:=H (show p.a.got=AA true from P.got false);have b2:=H (show p.b.got=AA false from P.got true);have y3:w7.cell? ⟨t.B,3,none⟩=some (.string ⟨(AA true).toArray⟩):=by rw[<-ax.o];exact HL.st.cell 3 (.string ⟨p.a.got.toArray⟩) Z
  have y9:w7.cell? ⟨t.B,9,none⟩=some (.string ⟨(AA false).toArray⟩):=by rw[<-b2.o];exact HL.st.cell 9 (.string ⟨p.b.got.toArray⟩) Z
  clear ax b2;obtain⟨K2,e7⟩:∃K2,K2=min U 30:=⟨_,Z⟩;go_wp2_with fail
  go_loopg [17] K2 (fun g iv wr=>∃(k:Nat) (I:Ft) (p:Pr),iv=((k:Int):Y)/\g+k=K2/\Rl w3.heap.size t w4 I p M (.slice aC M.length cC) wr/\Rp (cG x) NN AA p (3590+4*(k:Int))/\∀y∈M,y.1∈p.log)
  case atStart=>exact⟨0,I,p,Z,O,HL.o,by rw[show 3590+4*((0:Nat):Int)=3500+((90:Nat):Int) by decide];exact P.o,b6.o⟩
  clear y3 y9 HL P b6
  case round =>
   obtain⟨k,I,p,rfl,cY,a5,b0,d1⟩:=hrel;have d:=H a5;have P:=H b0;have b6:=H d1;clear a5 b0 d1;have c3:=H (HB.trans (d.st.fr.below HB.size (fun kk e1=>La dc.o (bv.lo kk e1))));by_cases hk:k<K2
   ·have e2:(k:Int)<(U:Int):=by omega
    have c4:(k:Int)<30:=O
    have e3:=(D8.Gf bb.o (K:=K2) O O).2;have c5:=wT bb.o (K:=K2) O O c3.o;obtain⟨bz,oz,rfl,-,d7⟩:=c5.cells O;have c6:k<(zs.take K2).length:=O
    have d0:=d7 k c6;have c7:=H (c5.Cq _ (LS c6));generalize (zs.take K2)[k]=z at d0 c7;clear d7 c5 e3 c6;go_wp2_with fail;refine(cz z M.length _ c7.o O O).mono ?_;rintro e wx⟨rfl,rfl⟩;clear d0;have d2:=ah z M.length O;obtain⟨j,hj⟩:∃j:Nat,aO z M.length=(j:Int):=⟨(aO z M.length).toNat,O⟩;rw[hj]at d2|-;clear hj c7;have b9:j<M.length:=O
    have cf:(j:Int)<(M.length:Int):=O
    clear d2;obtain⟨g2,eb,cL,d6,a3⟩:=d.l.at b9
    cases cL
    have c8:=H (d.l.2 M[j] (LS b9));have c9:=H (b6.o M[j] (LS b9));obtain⟨A,d8⟩:∃A,A=M[j]:=⟨_,Z⟩;rw[<-d8]at a3 c8 c9;clear d8;have d3:=H (me a3);clear a3
    go_upto_region 17 with(refine wpList_load_mid Z 55 _ Z g2 (j*16) Z (dC A) _ d3.o Tryz.underlying55 Z dD ?_;(try dsimp only[dC,aX]))
    clear d3;change Code.wp _ _ _ _ (wr.alloc (.cells (dC A).toArray 55));replace d:=H (Rf.new d.o c8.o);clear c8;generalize hF:wr.heap.size=F at d|-;generalize wr.alloc (.cells (dC A).toArray 55)=w7 at d|-;clear hF;have bd:=H (P.kd HP.o c9.o);have be:=H (P.ga.al.run.1.log _ c9.o);have ac:=H (td P.ga.al.run.1 P.ga.al.ml be.o O O);have an:=H P.ga.al.run.1.Cq;have cM:=H P.ga.al.run.1.now;obtain⟨a6,bk⟩ | ⟨a6,bk⟩:=kC A.1.dst
    focus
     have V:=H (show ∀W:World,aP F A W->W.cell? F=some ((0:Int):Y)from fun W h=>(h.cell 0 (bI A.1.dst) Z).trans (by rw[bk]));refine az (fun W:World=>W.cell? F=some ((0:Int):Y)/\W.cell? t.B=some (I.fa.C:Y)) (⟨V.o _ d.row,d.r.st.cell 0 I.fa.C Z⟩) fun E=>?_;replace d:=H (d.qn (L5 _ _).drew);generalize w7.drew=w8 at d E|-;refine aA 0 1 2 3 ?_;refine aA 4 5 6 7 ?_;refine aY 8 fun S u=> ?_;go_simp;refine(bS I.fa p.a.c _ d.r.st.pa.a).mono ?_;rintro e wq⟨rfl,rfl⟩;go_simp;refine u.out _ _ (⟨V.o _ d.row,d.r.st.cell 0 I.fa.C Z⟩) ?_;clear u S E;refine fun E=>aW ?_;refine aQ 9 ?_;refine ay ?_ _;clear E
     go_upto_region 18 with fail
     have bn:=H (show p.kd A.1=(p.v6 false (p.a.c.receive p.now A.1.s).1).put false (p.a.c.receive p.now A.1.s).2 from by unfold Pr.kd;rw[a6];rfl);replace ac:=H (show(p.v6 false (p.a.c.receive p.now A.1.s).1).log.length+(p.a.c.receive p.now A.1.s).2.length<=500000000000/\(p.v6 false (p.a.c.receive p.now A.1.s).1).wire.length+2*(p.a.c.receive p.now A.1.s).2.length<=500000000000/\(p.v6 false (p.a.c.receive p.now A.1.s).1).many+(p.a.c.receive p.now A.1.s).2.length<=1000000000000 from by have:=ac.o;rw[a6]at this;exact this);refine az (fun W:World=>W.cell? F=some ((0:Int):Y)/\W.cell? t.B=some (I.fa.C:Y)/\W.cell? ⟨t.B,13,none⟩=some (p.now:Y)/\W.rangeAt F 3 (aX (A.1.s,A.2.1,A.2.2))) (⟨V.o _ d.row,d.r.st.cell 0 I.fa.C Z,d.r.st.cell 13 p.now Z,im d.row⟩) fun E=>?_;replace d:=H (d.qn (L5 _ _).drew);generalize w8.drew=Is at d E|-;refine aA 0 1 2 3 ?_;refine aA 4 5 6 7 ?_;refine aA 8 9 10 11 ?_;refine aA 12 13 14 15 ?_;refine rm 16 (aX (A.1.s,A.2.1,A.2.2)) (fun _ h=>h.2.2.2) Tryz.underlying53 ie ?_ (y:=by((try simp only[Act.put,Lf,Lk,Lm,aX]);(try rfl)));refine aY 17 fun S u=> ?_;go_simp;refine(eY I.fa p.a.c p.now A.1.s A.2.1 A.2.2 _ d.r.st.pa.a P.ga.al.run.1.a.c an.o be.o d.bl).mono ?_;rintro e w9⟨v,gg,rfl,hl,hc,b1,b3⟩;have k4:=d.r.st.pa.FQ false gg _ hc b1 b3;replace d:=H (d.pair k4);have bo:=H hl;clear hl hc b1 b3 k4;go_simp;refine u.out _ _ (⟨V.o _ d.row,d.r.st.cell 0 I.fa.C Z,d.r.st.cell 13 p.now Z,im d.row⟩) ?_;clear u S E;refine fun E=>aW ?_;have a4:=cO w3.heap.size _ _ false _ v _ _ d.r.st.pa bo.o ac.1 ac.2.1 ac.2.2 cM.o;rw[d.r.st.eB,show bI false=0 from Z]at a4;replace a4:=H a4;refine aY 18 fun S u=> ?_;go_simp;refine(a4.o).mono ?_;rintro e wA⟨rfl,t5,k5⟩;have bu:=k5.eC.1;replace d:=H (d.pair k5);clear k5;go_simp;refine u.out _ _ (⟨V.o _ d.row,(d.r.st.cell 0 t5.fa.C Z).trans (by rw[bu];rfl),(d.r.st.cell 13 _ Z).trans (congrArg (fun z=>some (Value.int .i64 z)) (cD _ _ _).2.2.1),im d.row⟩) ?_;clear u S E;refine fun E=>aW ?_;refine ay ?_ _;clear E bu a4 bo;replace d:=H (show Rf w3.heap.size t w4 t5 (p.kd A.1) M _ F A wA from by rw[bn.o];exact d.o);have a0:=H (show p.a.c.st=0->(p.kd A.1).a.c.st=0 from fun h0=>by rw[show(p.kd A.1).a.c=(p.a.c.receive p.now A.1.s).1 from by have:=(lr p A.1).1;rw[a6]at this;exact this];exact lU h0 _ _);obtain⟨p2,T⟩:∃p2,p2=p.kd A.1:=⟨_,Z⟩;rw[<-T]at d a0 bd;clear T bn ac be an cM
     go_upto_region 19 with fail
     refine az (fun W:World=>W.cell? F=some ((0:Int):Y)/\W.cell? t.B=some (t5.fa.C:Y)) (⟨V.o _ d.row,d.r.st.cell 0 t5.fa.C Z⟩) fun E=>?_;replace d:=H (d.qn (L5 _ _).drew);generalize wA.drew=wB at d E|-;refine aA 0 1 2 3 ?_;refine aA 4 5 6 7 ?_;refine aY 8 fun S u=> ?_;go_simp;refine(bS t5.fa p2.a.c _ d.r.st.pa.a).mono ?_;rintro e wq⟨rfl,rfl⟩;go_simp;refine u.out _ _ (⟨V.o _ d.row,d.r.st.cell 0 t5.fa.C Z⟩) ?_;clear u S E;refine fun E=>aW ?_;refine aQ 9 ?_;refine ay ?_ _;clear E V;obtain⟨s0,b4⟩:∃s0,s0=p.a.c.st:=⟨_,Z⟩;obtain⟨s1,b5⟩:∃s1,s1=p2.a.c.st:=⟨_,Z⟩;rw[<-b4,<-b5]at a0|-;clear b4 b5 a6 bk;replace d:=H d.r
    rotate_left 1
    focus
     have V:=H (show ∀W:World,aP F A W->W.cell? F=some ((1:Int):Y)from fun W h=>(h.cell 0 (bI A.1.dst) Z).trans (by rw[bk]));refine az (fun W:World=>W.cell? F=some ((1:Int):Y)/\W.cell? ⟨t.B,6,none⟩=some (I.fb.C:Y)) (⟨V.o _ d.row,d.r.st.cell 6 I.fb.C Z⟩) fun E=>?_;replace d:=H (d.qn (L5 _ _).drew);generalize w7.drew=w8 at d E|-;refine aA 0 1 2 3 ?_;refine aA 4 5 6 7 ?_;refine aY 8 fun S u=> ?_;go_simp;refine(bS I.fb p.b.c _ d.r.st.pa.b).mono ?_;rintro e wq⟨rfl,rfl⟩;go_simp;refine u.out _ _ (⟨V.o _ d.row,d.r.st.cell 6 I.fb.C Z⟩) ?_;clear u S E;refine fun E=>aW ?_;refine aQ 9 ?_;refine ay ?_ _;clear E
     go_upto_region 18 with fail
     have bn:=H (show p.kd A.1=(p.v6 true (p.b.c.receive p.now A.1.s).1).put true (p.b.c.receive p.now A.1.s).2 from by unfold Pr.kd;rw[a6];rfl);replace ac:=H (show(p.v6 true (p.b.c.receive p.now A.1.s).1).log.length+(p.b.c.receive p.now A.1.s).2.length<=500000000000/\(p.v6 true (p.b.c.receive p.now A.1.s).1).wire.length+2*(p.b.c.receive p.now A.1.s).2.length<=500000000000/\(p.v6 true (p.b.c.receive p.now A.1.s).1).many+(p.b.c.receive p.now A.1.s).2.length<=1000000000000 from by have:=ac.o;rw[a6]at this;exact this);refine az (fun W:World=>W.cell? F=some ((1:Int):Y)/\W.cell? ⟨t.B,6,none⟩=some (I.fb.C:Y)/\W.cell? ⟨t.B,13,none⟩=some (p.now:Y)/\W.rangeAt F 3 (aX (A.1.s,A.2.1,A.2.2))) (⟨V.o _ d.row,d.r.st.cell 6 I.fb.C Z,d.r.st.cell 13 p.now Z,im d.row⟩) fun E=>?_;replace d:=H (d.qn (L5 _ _).drew);generalize w8.drew=Is at d E|-;refine aA 0 1 2 3 ?_;refine aA 4 5 6 7 ?_;refine aA 8 9 10 11 ?_;refine aA 12 13 14 15 ?_;refine rm 16 (aX (A.1.s,A.2.1,A.2.2)) (fun _ h=>h.2.2.2) Tryz.underlying53 ie ?_ (y:=by((try simp only[Act.put,Lf,Lk,Lm,aX]);(try rfl)));refine aY 17 fun S u=> ?_;go_simp;refine(eY I.fb p.b.c p.now A.1.s A.2.1 A.2.2 _ d.r.st.pa.b P.ga.al.run.1.b.c an.o be.o d.bl).mono ?_;rintro e w9⟨v,gg,rfl,hl,hc,b1,b3⟩;have k4:=d.r.st.pa.FQ true gg _ hc b1 b3;replace d:=H (d.pair k4);have bo:=H hl;clear hl hc b1 b3 k4;go_simp;refine u.out _ _ (⟨V.o _ d.row,d.r.st.cell 6 I.fb.C Z,d.r.st.cell 13 p.now Z,im d.row⟩) ?_;clear u S E;refine fun E=>aW ?_;have a4:=cO w3.heap.size _ _ true _ v _ _ d.r.st.pa bo.o ac.1 ac.2.1 ac.2.2 cM.o;rw[d.r.st.eB,show bI true=1 from Z]at a4;replace a4:=H a4;refine aY 18 fun S u=> ?_;go_simp;refine(a4.o).mono ?_;rintro e wA⟨rfl,t5,k5⟩;have bu:=k5.eC.2.1;replace d:=H (d.pair k5);clear k5;go_simp;refine u.out _ _ (⟨V.o _ d.row,(d.r.st.cell 6 t5.fb.C Z).trans (by rw[bu];rfl),(d.r.st.cell 13 _ Z).trans (congrArg (fun z=>some (Value.int .i64 z)) (cD _ _ _).2.2.1),im d.row⟩) ?_;clear u S E;refine fun E=>aW ?_;refine ay ?_ _;clear E bu a4 bo;replace d:=H (show Rf w3.heap.size t w4 t5 (p.kd A.1) M _ F A wA from by rw[bn.o];exact d.o);have a0:=H (show p.b.c.st=0->(p.kd A.1).b.c.st=0 from fun h0=>by rw[show(p.kd A.1).b.c=(p.b.c.receive p.now A.1.s).1 from by have:=(lr p A.1).1;rw[a6]at this;exact this];exact lU h0 _ _);obtain⟨p2,T⟩:∃p2,p2=p.kd A.1:=⟨_,Z⟩;rw[<-T]at d a0 bd;clear T bn ac be an cM
     go_upto_region 19 with fail
     refine az (fun W:World=>W.cell? F=some ((1:Int):Y)/\W.cell? ⟨t.B,6,none⟩=some (t5.fb.C:Y)) (⟨V.o _ d.row,d.r.st.cell 6 t5.fb.C Z⟩) fun E=>?_;replace d:=H (d.qn (L5 _ _).drew);generalize wA.drew=wB at d E|-;refine aA 0 1 2 3 ?_;refine aA 4 5 6 7 ?_;refine aY 8 fun S u=> ?_;go_simp;refine(bS t5.fb p2.b.c _ d.r.st.pa.b).mono ?_;rintro e wq⟨rfl,rfl⟩;go_simp;refine u.out _ _ (⟨V.o _ d.row,d.r.st.cell 6 t5.fb.C Z⟩) ?_;clear u S E;refine fun E=>aW ?_;refine aQ 9 ?_;refine ay ?_ _;clear E V;obtain⟨s0,b4⟩:∃s0,s0=p.b.c.st:=⟨_,Z⟩;obtain⟨s1,b5⟩:∃s1,s1=p2.b.c.st:=⟨_,Z⟩;rw[<-b4,<-b5]at a0|-;clear b4 b5 a6 bk;replace d:=H d.r
    rotate_left 1
    all_goals
     have G:=H bd.1;have av:=H bd.2;clear bd P;go_wp2_with fail;show Calls _ _ #[_,(bI false),_] _ _;have aF:=eD w3.heap.size _ _ false 100 _ _ _ d.st.pa G.ga.al.run.1 (G.ga.al.DE O).1 (G.ga.al.DE O).2 G.ga.al.ml D (La (G.ga.al.got false) D);rw[d.st.eB]at aF;refine aF.mono ?_;rintro e wC⟨rfl,tC,k3⟩;replace d:=H (d.pair k3);clear aF k3;have am:=G.recv false (k:=100) D;replace av:=H (fun g hg=>am.2 g (av.o g hg));replace G:=H am.1;clear am;go_wp2_with fail;show Calls _ _ #[_,(bI true),_] _ _;have aF:=eD w3.heap.size _ _ true 100 _ _ _ d.st.pa G.ga.al.run.1 (G.ga.al.DE O).1 (G.ga.al.DE O).2 G.ga.al.ml D (La (G.ga.al.got true) D);rw[d.st.eB]at aF;refine aF.mono ?_;rintro e wD⟨rfl,tD,k3⟩;replace d:=H (d.pair k3);clear aF k3;have am:=G.recv true (k:=100) D;replace av:=H (fun g hg=>am.2 g (av.o g hg));replace G:=H am.1;clear am;go_wp2_with fail;have ak:=cq w3.heap.size _ _ _ _ _ d.st.pa G.ga.al.run.1 (G.ga.al.DE O).1 (G.ga.al.DE O).2 G.ga.al.ml (by have:=G.ga.al.run.2;omega);rw[d.st.eB]at ak;refine ak.mono ?_;rintro e wE⟨rfl,tE,k3⟩;replace d:=H (d.pair k3);clear ak k3;have am:=G.tick HP.o O O;replace av:=H (fun g hg=>am.2 g (av.o g hg));replace G:=H am.1;clear am;generalize dl:Pr.tick _=pE at d G av;clear dl;have ax:=H (show pE.a.got=AA true from G.got false);have b2:=H (show pE.b.got=AA false from G.got true);have y3:wE.cell? ⟨t.B,3,none⟩=some (.string ⟨(AA true).toArray⟩):=by rw[<-ax.o];exact d.st.cell 3 (.string ⟨pE.a.got.toArray⟩) Z
     have y9:wE.cell? ⟨t.B,9,none⟩=some (.string ⟨(AA false).toArray⟩):=by rw[<-b2.o];exact d.st.cell 9 (.string ⟨pE.b.got.toArray⟩) Z
     clear ax b2;by_cases h0:s0=0
     ·have e4:(s0==0)=true:=Me.2 h0;have e8:(s1 != 0)=false:=by rw[a0.o h0];rfl
      clear h0 a0;go_wp2_with fail;clear y3 y9
      go_roundg (gk-1)
      case measure=>omega
      case rel=>exact⟨k+1,tE,pE,IV,O,d.o,Q4,fun y hy=>av.o _ (b6.o y hy)⟩
     ·have e4:(s0==0)=false:=Ln.2 h0;clear h0 a0;go_wp2_with fail;clear y3 y9
      go_roundg (gk-1)
      case measure=>omega
      case rel=>exact⟨k+1,tE,pE,IV,O,d.o,Q4,fun y hy=>av.o _ (b6.o y hy)⟩
   have ax:=H (show p.a.all=AA false from P.all false);have b2:=H (show p.b.all=AA true from P.all true);have y1:wr.cell? ⟨t.B,1,none⟩=some (.string ⟨(AA false).toArray⟩):=by rw[<-ax.o];exact d.st.cell 1 (.string ⟨p.a.all.toArray⟩) Z
   have y7:wr.cell? ⟨t.B,7,none⟩=some (.string ⟨(AA true).toArray⟩):=by rw[<-b2.o];exact d.st.cell 7 (.string ⟨p.b.all.toArray⟩) Z
   clear ax b2;have d5:k=K2:=O
   by_cases e2:(k:Int)<(U:Int)
   ·have c4:¬(k:Int)<30:=by omega
    go_wp2;go_ret;exact⟨Z,c3.o⟩
   go_wp2;go_ret;exact⟨Z,c3.o⟩
end
end Go.Proofs.YtcmncipikdpnbaaGreatDoor
