import Derived.Test.YtcmncipikdpnbaaGreatDoorUb28
import Derived.Test.YtcmncipikdpnbaaGreatDoorUb29
namespace Go.Proofs.YtcmncipikdpnbaaGreatDoor
section
set_option maxHeartbeats 8000000
set_option maxRecDepth 100000
open Go.RowKit Go.Shelf
theorem aL.base {w:World}{b b':Nat}{v:Value}{L:List Sg}(h:aL w b v L)(e:b'<=b):aL w b' v L:=by
 obtain⟨M,h1,h2,a⟩:=h;refine⟨M,h1,?_,a⟩
 rcases h2 with⟨f,hy⟩
 exact⟨f,hy.imp id (fun⟨g,c,d,h1,h2,a⟩=>⟨g,c,d,h1,La e h2,a⟩)⟩
theorem Cn.Fq (c:Cn)(now:Int)(s:Sg)(off:Int):c.process now s off =
 if c.st=2 then
  if aE s.ak c.cf.ki<1\/c.next<aE s.ak c.cf.ki then(c,[c.x3 s.ak])
  else if(c.step now 4).shut=true then(((((c.step now 4).step now 5).i1 now s (aE s.ak c.cf.ki)).store now s off).tl now s off).push now
  else((((c.step now 4).i1 now s (aE s.ak c.cf.ki)).store now s off).tl now s off).push now
 else if c.next<aE s.ak c.cf.ki then c.i2.push now
 else(((c.i1 now s (aE s.ak c.cf.ki)).store now s off).tl now s off).push now:=by
 unfold Cn.process;dsimp only;by_cases h2:c.st=2
 ·rw[L9 h2,L9 h2];by_cases a:aE s.ak c.cf.ki<1\/c.next<aE s.ak c.cf.ki
  ·rw[L9 a,L9 a]
  rw[L7 a,L7 a];by_cases b:(c.step now 4).shut=true
  ·rw[L9 b,L9 b]
  rw[L7 b,L7 b]
 rw[L7 h2,L7 h2]
theorem pS (f:Fp) (c:Cn) (now:Int) (s:Sg) (off:Int) (a:Option Addr) (cap:Nat) (w:World) (h:kn f c w) (ok:c.Ok) (hn:aI now) (hs:s.Ok) (j:bE w a s.bl) (N: -2147483648<=off/\off<=2147483647) :
  Calls Tryz.prog 46 #[f.C,now,dY s a cap,off] w (eA f w (c.process now s off).2 (c.process now s off).1):=by
 have l:=H hn;have m:=H hs;have c1:=h.gl.top;have c2:=h.lt;have S:=H ok;have b:=H (Sw.start (x:=(s,a,cap)) h j);clear h j ok hs hn;unfold dY;have cL:=H (show(c.process now s off)=c.process now s off from Z);obtain⟨R,hR⟩:∃R,R=c.process now s off:=⟨_,Z⟩;rw[<-hR];have U:=H hR;clear hR cL;have n:=bP s.ak c.cf.ki;have c0:=S.gi;obtain⟨b6,b7,b8⟩:=c0
 go_enter Tryz.func46,Tryz.ntmps46
 go_wp2_with fail;change Code.wp _ _ _ _ (w.alloc (.cells (aX (s,a,cap)).toArray 53));generalize w.alloc (.cells (aX (s,a,cap)).toArray 53)=w1 at b|-;refine az (fun W:World=>W.cell? ⟨w.heap.size,3,none⟩=some (s.ak:Y)/\W.cell? ⟨f.C,24,none⟩=some (c.cf.ki:Y)) (⟨b.row.cell 3 s.ak Z,b.cn.cell 24 c.cf.ki Z⟩) fun hZ=>?_;replace b:=H b.drew;generalize w1.drew=Gh at b hZ|-;refine aA 0 1 2 3 ?_;refine aM 4 5 ?_;refine aQ 6 ?_;refine aY 7 fun Kq a4=> ?_;go_simp;refine(de _ _ _).mono ?_;rintro e w2⟨rfl,rfl⟩;go_simp;refine a4.out _ _ (⟨b.row.cell 3 s.ak Z,b.cn.cell 24 c.cf.ki Z⟩) ?_;clear a4 Kq hZ;refine fun hZ=>aW ?_;refine aQ 8 ?_;refine ay ?_ _;clear hZ;have q:=H (Cn.Fq c now s off);obtain⟨ak,b5⟩:∃ak,ak=aE s.ak c.cf.ki:=⟨_,Z⟩;rw[<-b5]at q n|-;clear b5;have am:=b.cn.cell 28 c.st Z;by_cases h2:c.st=2
 ·by_cases V:ak<1
  ·have i:=H (q.trans (by rw[L9 h2,L9 (.inl V)]));have bI:decide (ak<1)=true:=Le V;clear V;have c3:=b.row.cell 3 s.ak Z;rw[h2]at am;go_wp2_with fail;refine(jN f c s.ak _ b.cn).mono ?_;rintro e p⟨rfl,j⟩;replace b:=H (b.qn j);clear j;unfold dY;clear c3;have a7:=(L5 p.heap.size p).alloc (L6 _) (.cells (aX ((c.x3 s.ak),none,0)).toArray 53);have X:=H (bj (aS.new p ((c.x3 s.ak),none,0)));replace b:=H (b.qn a7);clear a7;go_wp2_with fail;change Calls _ _ #[Value.slice none 0 0,Value.slice (some ⟨p.heap.size,0,none⟩) [(((c.x3 s.ak),none,0):cP)].length 1] (p.alloc (.cells (aX ((c.x3 s.ak),none,0)).toArray 53)) _;generalize p.heap.size=NB at X|-;generalize p.alloc (.cells (aX ((c.x3 s.ak),none,0)).toArray 53)=w6 at X b|-;refine(cN w6 w.heap.size _ [] (cI.nil _ _) NB 0 1 [((c.x3 s.ak),none,0)] X.o (fun y hy=>by rw[Ly.1 hy];exact bE.nil _ _) IK b.ch.size).mono ?_;rintro e w8⟨v',rfl,h1,h2,-⟩;have a5:=H (b.cn.grown h2 (fun k e=>by cases e));have a6:=H (b.ch.grown h2 (fun k e=>by cases e));have HL:=H (show aL w8 w.heap.size v' [(c.x3 s.ak)]from⟨_,Z,h1⟩);clear h1 h2;go_wp2;go_ret;exact⟨_,Z,Pq,by rw[U.o,i.o];exact a5.o,a6.o⟩
  by_cases r:c.next<ak
  ·have i:=H (q.trans (by rw[L9 h2,L9 (.inr r)]));have bI:decide (ak<1)=false:=Lh V;have aa:decide (c.next<ak)=true:=Le r;clear V r;rw[h2]at am;go_wp2_with fail;refine(aZ f c _ b.cn).mono ?_;rintro e w3⟨rfl,j⟩;replace b:=H (b.qn j);clear j;have c3:=b.row.cell 3 s.ak Z;go_wp2_with fail;refine(jN f c s.ak _ b.cn).mono ?_;rintro e p⟨rfl,j⟩;replace b:=H (b.qn j);clear j;unfold dY;clear c3;have a7:=(L5 p.heap.size p).alloc (L6 _) (.cells (aX ((c.x3 s.ak),none,0)).toArray 53);have X:=H (bj (aS.new p ((c.x3 s.ak),none,0)));replace b:=H (b.qn a7);clear a7;go_wp2_with fail;change Calls _ _ #[Value.slice none 0 0,Value.slice (some ⟨p.heap.size,0,none⟩) [(((c.x3 s.ak),none,0):cP)].length 1] (p.alloc (.cells (aX ((c.x3 s.ak),none,0)).toArray 53)) _;generalize p.heap.size=NB at X|-;generalize p.alloc (.cells (aX ((c.x3 s.ak),none,0)).toArray 53)=w6 at X b|-;refine(cN w6 w.heap.size _ [] (cI.nil _ _) NB 0 1 [((c.x3 s.ak),none,0)] X.o (fun y hy=>by rw[Ly.1 hy];exact bE.nil _ _) IK b.ch.size).mono ?_;rintro e w8⟨v',rfl,h1,h2,-⟩;have a5:=H (b.cn.grown h2 (fun k e=>by cases e));have a6:=H (b.ch.grown h2 (fun k e=>by cases e));have HL:=H (show aL w8 w.heap.size v' [(c.x3 s.ak)]from⟨_,Z,h1⟩);clear h1 h2;go_wp2;go_ret;exact⟨_,Z,Pq,by rw[U.o,i.o];exact a5.o,a6.o⟩
  have H3:=H V;have H4:=H r;have bI:decide (ak<1)=false:=Lh V;have aa:decide (c.next<ak)=false:=Lh r;clear V r;rw[h2]at am;go_wp2_with fail;refine(aZ f c _ b.cn).mono ?_;rintro e w3⟨rfl,j⟩;replace b:=H (b.qn j);clear j;go_wp2_with fail;refine(cR f c now 4 _ b.cn S.st D).mono ?_;rintro e T⟨rfl,g,d⟩;replace b:=H (b.call g d);clear g d;have ad:=H (S.step l.o (S.tr2 (by rw[h2];decide)) 4);have b9:=H (show(c.step now 4).tries<=12 by rw[Cn.Dc];exact S.tr2 (by rw[h2];decide));replace q:=H (q.trans (by rw[L9 h2,L7 (by have:=H3.o;have:=H4.o;omega)]));generalize c.step now 4=d2 at b ad b9 q;clear am bI aa H3 H4;have c9:=b.cn.cell 9 d2.shut Z;by_cases h5:d2.shut=true
  focus
   have i:=H (q.trans (by rw[L9 h5]));clear q;rw[h5]at c9;go_wp2_with fail;refine(cR f d2 now 5 _ b.cn ad.st D).mono ?_;rintro e T⟨rfl,g,d⟩;replace b:=H (b.call g d);clear g d;have av:=H (ad.step l.o b9.o 5);generalize d2.step now 5=d3 at b av i;have t:=b.row.cell 0 _ Z;have u:=b.row.cell 1 _ Z;have z:=b.row.cell 2 _ Z;have A:=b.row.cell 3 _ Z;have B:=b.row.cell 4 _ Z;have E:=b.row.cell 5 _ Z;have F:=b.row.cell 6 _ Z;have G:=b.row.cell 7 _ Z;have I:=b.row.cell 8 _ Z;have J:=b.row.cell 9 _ Z;have K:=b.row.cell 10 _ Z;have L:=b.row.cell 11 _ Z;have M:=b.row.cell 12 _ Z;go_wp2_with fail;refine(iC f (d3) now s ak a cap _ b.cn av.o l.o m.o b.bl n).mono ?_;rintro e T⟨rfl,g,d⟩;replace b:=H (b.call g d);clear g d;clear t u z A B E F G I J K L M;have P:=H (av.i1 l.o m.o (show ak<=1099511562240 by omega));have b0:=H (Cn.Ok.tail (c:=d3) av.o l.o m.o N n.2);generalize Cn.i1 (d3) now s ak=d5 at b P b0 i
  rotate_left 1
  focus
   have h6:d2.shut=false:=by simpa using h5
   have i:=H (q.trans (by rw[L7 h5]));clear q;rw[h6]at c9;clear h5 h6;have t:=b.row.cell 0 _ Z;have u:=b.row.cell 1 _ Z;have z:=b.row.cell 2 _ Z;have A:=b.row.cell 3 _ Z;have B:=b.row.cell 4 _ Z;have E:=b.row.cell 5 _ Z;have F:=b.row.cell 6 _ Z;have G:=b.row.cell 7 _ Z;have I:=b.row.cell 8 _ Z;have J:=b.row.cell 9 _ Z;have K:=b.row.cell 10 _ Z;have L:=b.row.cell 11 _ Z;have M:=b.row.cell 12 _ Z;go_wp2_with fail;refine(iC f (d2) now s ak a cap _ b.cn ad.o l.o m.o b.bl n).mono ?_;rintro e T⟨rfl,g,d⟩;replace b:=H (b.call g d);clear g d;clear t u z A B E F G I J K L M;have P:=H (ad.i1 l.o m.o (show ak<=1099511562240 by omega));have b0:=H (Cn.Ok.tail (c:=d2) ad.o l.o m.o N n.2);generalize Cn.i1 (d2) now s ak=d5 at b P b0 i
  all_goals
   have t:=b.row.cell 0 _ Z;have u:=b.row.cell 1 _ Z;have z:=b.row.cell 2 _ Z;have A:=b.row.cell 3 _ Z;have B:=b.row.cell 4 _ Z;have E:=b.row.cell 5 _ Z;have F:=b.row.cell 6 _ Z;have G:=b.row.cell 7 _ Z;have I:=b.row.cell 8 _ Z;have J:=b.row.cell 9 _ Z;have K:=b.row.cell 10 _ Z;have L:=b.row.cell 11 _ Z;have M:=b.row.cell 12 _ Z;go_wp2_with fail;refine(mf f d5 now s off a cap _ b.cn P.1 m.o b.bl N).mono ?_;rintro e T⟨rfl,g,d⟩;replace b:=H (b.call g d);clear g d;clear t u z A B E F G I J K L M;have b1:=H (P.1.store l.o m.o N.2);have b2:=H (show(d5.store now s off).tries<=12 by rw[Cn.DR,P.2];decide);generalize d5.store now s off=d6 at b b1 b2 b0 i;have t:=b.row.cell 0 _ Z;have u:=b.row.cell 1 _ Z;have z:=b.row.cell 2 _ Z;have A:=b.row.cell 3 _ Z;have B:=b.row.cell 4 _ Z;have E:=b.row.cell 5 _ Z;have F:=b.row.cell 6 _ Z;have G:=b.row.cell 7 _ Z;have I:=b.row.cell 8 _ Z;have J:=b.row.cell 9 _ Z;have K:=b.row.cell 10 _ Z;have L:=b.row.cell 11 _ Z;have M:=b.row.cell 12 _ Z;go_wp2_with fail;refine(oG f d6 now s off a cap _ b.cn b1.o l.o m.o b.bl N b2.o).mono ?_;rintro e T⟨rfl,g,d⟩;replace b:=H (b.call g d);clear g d;clear t u z A B E F G I J K L M;have ba:=H (b1.tl l.o m.o N b2.o);generalize d6.tl now s off=d7 at b ba i;go_wp2_with fail;refine(au f d7 now _ b.cn ba.o l.o).mono ?_;rintro e wz⟨v,rfl,hl,g,d⟩;have HL:=H (show aL wz w.heap.size v _ from aL.base hl b.ch.size);have b3:=H g;have b4:=H (b.ch.trans d);clear hl g d;go_wp2;go_ret;exact⟨_,Z,Pq,by rw[U.o,i.o];exact b3.o,b4.o⟩
 have c4:(c.st==2)=false:=Ln.2 h2;have H2:=H h2;clear h2;by_cases r:c.next<ak
 focus
  have i:=H (q.trans (by rw[L7 H2.o,L9 r]));have aa:decide (c.next<ak)=true:=Le r;clear r q;go_wp2_with fail;refine(aZ f c _ b.cn).mono ?_;rintro e w3⟨rfl,j⟩;replace b:=H (b.qn j);clear j;go_wp2_with fail;refine(cK f c _ b.cn).mono ?_;rintro e T⟨rfl,g,d⟩;replace b:=H (b.call g d);clear g d;have av:=H S.i2;go_wp2_with fail;refine(au f c.i2 now _ b.cn av.o l.o).mono ?_
 rotate_left 1
 focus
  have i:=H (q.trans (by rw[L7 H2.o,L7 r]));have aa:decide (c.next<ak)=false:=Lh r;clear r q;go_wp2_with fail;refine(aZ f c _ b.cn).mono ?_;rintro e w3⟨rfl,j⟩;replace b:=H (b.qn j);clear j;have t:=b.row.cell 0 _ Z;have u:=b.row.cell 1 _ Z;have z:=b.row.cell 2 _ Z;have A:=b.row.cell 3 _ Z;have B:=b.row.cell 4 _ Z;have E:=b.row.cell 5 _ Z;have F:=b.row.cell 6 _ Z;have G:=b.row.cell 7 _ Z;have I:=b.row.cell 8 _ Z;have J:=b.row.cell 9 _ Z;have K:=b.row.cell 10 _ Z;have L:=b.row.cell 11 _ Z;have M:=b.row.cell 12 _ Z;go_wp2_with fail;refine(iC f (c) now s ak a cap _ b.cn S.o l.o m.o b.bl n).mono ?_;rintro e T⟨rfl,g,d⟩;replace b:=H (b.call g d);clear g d;clear t u z A B E F G I J K L M;have P:=H (S.i1 l.o m.o (show ak<=1099511562240 by omega));have b0:=H (Cn.Ok.tail (c:=c) S.o l.o m.o N n.2);generalize Cn.i1 (c) now s ak=d5 at b P b0 i;have t:=b.row.cell 0 _ Z;have u:=b.row.cell 1 _ Z;have z:=b.row.cell 2 _ Z;have A:=b.row.cell 3 _ Z;have B:=b.row.cell 4 _ Z;have E:=b.row.cell 5 _ Z;have F:=b.row.cell 6 _ Z;have G:=b.row.cell 7 _ Z;have I:=b.row.cell 8 _ Z;have J:=b.row.cell 9 _ Z;have K:=b.row.cell 10 _ Z;have L:=b.row.cell 11 _ Z;have M:=b.row.cell 12 _ Z;go_wp2_with fail;refine(mf f d5 now s off a cap _ b.cn P.1 m.o b.bl N).mono ?_;rintro e T⟨rfl,g,d⟩;replace b:=H (b.call g d);clear g d;clear t u z A B E F G I J K L M;have b1:=H (P.1.store l.o m.o N.2);have b2:=H (show(d5.store now s off).tries<=12 by rw[Cn.DR,P.2];decide);generalize d5.store now s off=d6 at b b1 b2 b0 i;have t:=b.row.cell 0 _ Z;have u:=b.row.cell 1 _ Z;have z:=b.row.cell 2 _ Z;have A:=b.row.cell 3 _ Z;have B:=b.row.cell 4 _ Z;have E:=b.row.cell 5 _ Z;have F:=b.row.cell 6 _ Z;have G:=b.row.cell 7 _ Z;have I:=b.row.cell 8 _ Z;have J:=b.row.cell 9 _ Z;have K:=b.row.cell 10 _ Z;have L:=b.row.cell 11 _ Z;have M:=b.row.cell 12 _ Z;go_wp2_with fail;refine(oG f d6 now s off a cap _ b.cn b1.o l.o m.o b.bl N b2.o).mono ?_;rintro e T⟨rfl,g,d⟩;replace b:=H (b.call g d);clear g d;clear t u z A B E F G I J K L M;have ba:=H (b1.tl l.o m.o N b2.o);generalize d6.tl now s off=d7 at b ba i;go_wp2_with fail;refine(au f d7 now _ b.cn ba.o l.o).mono ?_
 all_goals
  rintro e wz⟨v,rfl,hl,g,d⟩;have HL:=H (show aL wz w.heap.size v _ from aL.base hl b.ch.size);have b3:=H g;have b4:=H (b.ch.trans d);clear hl g d;go_wp2;go_ret;exact⟨_,Z,Pq,by rw[U.o,i.o];exact b3.o,b4.o⟩
end
section
set_option maxHeartbeats 8000000
set_option maxRecDepth 100000
open Go.RowKit Go.Shelf
theorem vV {s:Sg}(h:s.Ok):aq s=s.s.length+(if s.syn=true\/s.fin=true then 1 else 0):=by
 unfold aq;have:=h.fl.1
 cases h1:s.syn <;> cases h2:s.fin <;> simp_all <;> omega
theorem Cn.G9 (c:Cn)(now:Int)(s:Sg):c.stray now s =
 (let a:=if(bf c.st=true/\s.has=true/\s.syn=false)/\c.gi<=aE s.ak c.cf.ki/\aE s.ak c.cf.ki<=c.next then c.i1 now s (aE s.ak c.cf.ki)else c
  let b:Cn:=if a.st=9/\s.fin=true then { a with per:=.Ck now 60 }else a
  (if 0<aq s then b.i2 else b).push now):=by
 unfold Cn.stray;dsimp only
 congr 1
 simp only[and_assoc]
theorem lN (s:Sg)(a:Option Addr)(cap:Nat)(w:World)(hs:s.Ok) :
  Calls Tryz.prog 40 #[dY s a cap] w fun e w'=>e= .returned (aq s)/\Below w.heap.size w w':=by
 have h:=sN s a cap ⟨s.s.toArray⟩ w IQ (by have:=hs.DX;omega);rw[<-vV hs]at h;unfold dY;exact h
theorem sO (f:Fp) (c:Cn) (now:Int) (s:Sg) (a:Option Addr) (cap:Nat) (w:World) (h:kn f c w) (ok:c.Ok) (hn:aI now) (hs:s.Ok) (g:bE w a s.bl) (h0:c.st≠0) :
  Calls Tryz.prog 43 #[f.C,now,dY s a cap] w (eA f w (c.stray now s).2 (c.stray now s).1):=by
 have bk:=H (ok.tr2 h0);have G:=H hn;have T:=H hs;have a4:=h.gl.top;have a5:=h.lt;have N:=H ok;have d:=H (Sw.start (x:=(s,a,cap)) h g);clear h g ok hs hn;unfold dY;obtain⟨R,U⟩:∃R,R=c.stray now s:=⟨_,Z⟩;rw[<-U];have n:=H (U.trans (Cn.G9 c now s));clear U;have q:=bP s.ak c.cf.ki;have V:=N.gi;obtain⟨b6,b7,b8⟩:=V;obtain⟨A,hA⟩:∃A,A=if(bf c.st=true/\s.has=true/\s.syn=false)/\c.gi<=aE s.ak c.cf.ki/\aE s.ak c.cf.ki<=c.next then c.i1 now s (aE s.ak c.cf.ki)else c:=⟨_,Z⟩;have u:=H hA;have X:=H (show A.Ok/\A.tries<=12 from by rw[hA];split;(have:=N.i1 G.o T.o (show aE s.ak c.cf.ki<=1099511562240 by omega);exact⟨this.1,by rw[this.2];decide⟩);exact⟨N.o,bk.o⟩);replace n:=H (show R=(let b:Cn:=if A.st=9/\s.fin=true then { A with per:=.Ck now 60 }else A;(if 0<aq s then b.i2 else b).push now) by rw[n.o,hA]);clear hA;obtain⟨b,m⟩:∃b:Cn,b=if A.st=9/\s.fin=true then { A with per:=.Ck now 60 }else A:=⟨_,Z⟩;replace n:=H (show R=(if 0<aq s then b.i2 else b).push now by rw[n.o,m]);have HB:=H m;have bn:=H (show b.Ok from by rw[m];split;(exact { X.1 with per:=Al.Cz G.o D D });exact X.1);clear m
 go_enter Tryz.func43,Tryz.ntmps43
 go_upto_region 1 with fail
 change Code.wp _ _ _ _ (w.alloc (.cells (aX (s,a,cap)).toArray 53));generalize w.alloc (.cells (aX (s,a,cap)).toArray 53)=w1 at d|-
 go_cut [21]from 8 to 22 (fun v r=>v=(decide (bf c.st=true/\s.has=true/\s.syn=false):Y)/\r=w1)
 case first =>
  have am:=d.cn.cell 28 c.st Z;have r7:=d.row.cell 7 s.has Z;have r4:=d.row.cell 4 s.syn Z;by_cases h1:bf c.st=true
  ·have j:fE c.st=true:=h1;have H1:=H h1;clear h1;by_cases h2:s.has=true
   ·by_cases y:s.syn=false
    ·rw[h2]at r7;rw[y]at r4;have P:=H h2;have H3:=H y;clear h2 y;go_wp2_with fail;refine(bi c.st _).mono ?_;rintro e w2⟨rfl,rfl⟩;rw[j];go_wp2_with fail
     go_meet
     case rel=>exact⟨congrArg Value.bool (Le ⟨H1.o,P.o,H3.o⟩).symm,Z⟩
    have bo:s.syn=true:=by simpa using y
    rw[h2]at r7;rw[bo]at r4;have P:=H h2;have H3:=H y;clear h2 y bo;go_wp2_with fail;refine(bi c.st _).mono ?_;rintro e w2⟨rfl,rfl⟩;rw[j];go_wp2_with fail
    go_meet
    case rel=>exact⟨congrArg Value.bool (Lh (fun h=>H3.o h.2.2)).symm,Z⟩
   have bu:s.has=false:=JA
   rw[bu]at r7;have P:=H h2;clear h2 bu;go_wp2_with fail;refine(bi c.st _).mono ?_;rintro e w2⟨rfl,rfl⟩;rw[j];go_wp2_with fail
   go_meet
   case rel=>exact⟨congrArg Value.bool (Lh (fun h=>P.o h.2.1)).symm,Z⟩
  have j:fE c.st=false:=by cases p:fE c.st with | false=>rfl | true=>exact absurd p h1
  have H1:=H h1;clear h1;go_wp2_with fail;refine(bi c.st _).mono ?_;rintro e w2⟨rfl,rfl⟩;rw[j];go_wp2_with fail
  go_meet
  case rel=>exact⟨congrArg Value.bool (Lh (fun h=>H1.o h.1)).symm,Z⟩
 case rest =>
  obtain⟨rfl,rfl⟩:=hcut
  go_upto_if 21 with fail
  go_cut []from 7 to 49 (fun r=>Sw f w w.heap.size (s,a,cap) A r)
  case first =>
   by_cases z:bf c.st=true/\s.has=true/\s.syn=false
   ·rw[Le z];have HP:=H z;clear z;go_wp2_with fail;refine az (fun W:World=>W.cell? ⟨w.heap.size,3,none⟩=some (s.ak:Y)/\W.cell? ⟨f.C,24,none⟩=some (c.cf.ki:Y)) (⟨d.row.cell 3 s.ak Z,d.cn.cell 24 c.cf.ki Z⟩) fun S=>?_;replace d:=H d.drew;generalize wc.drew=Im at d S|-;refine aA 0 1 2 3 ?_;refine aM 4 5 ?_;refine aQ 6 ?_;refine aY 7 fun Kq I=> ?_;go_simp;refine(de _ _ _).mono ?_;rintro e w3⟨rfl,rfl⟩;go_simp;refine I.out _ _ (⟨d.row.cell 3 s.ak Z,d.cn.cell 24 c.cf.ki Z⟩) ?_;clear I Kq S;refine fun S=>aW ?_;refine aQ 8 ?_;refine ay ?_ _;clear S;obtain⟨ak,J⟩:∃ak,ak=aE s.ak c.cf.ki:=⟨_,Z⟩;rw[<-J]at u q|-;clear J
    skip
    by_cases t:c.gi<=ak
    ·by_cases K:ak<=c.next
     ·have k:=H (show A=c.i1 now s ak by rw[u.o];exact L9 ⟨HP.o,t,K⟩);have aa:decide (c.gi<=ak)=true:=Le t;have bd:decide (ak<=c.next)=true:=Le K;clear t K;go_wp2_with fail;refine(df f c _ d.cn).mono ?_;rintro e w4⟨rfl,g⟩;replace d:=H (d.qn g);clear g;go_wp2_with fail;refine(aZ f c _ d.cn).mono ?_;rintro e w5⟨rfl,g⟩;replace d:=H (d.qn g);clear g;have q0:=d.row.cell 0 _ Z;have q1:=d.row.cell 1 _ Z;have q2:=d.row.cell 2 _ Z;have q3:=d.row.cell 3 _ Z;have q4:=d.row.cell 4 _ Z;have q5:=d.row.cell 5 _ Z;have q6:=d.row.cell 6 _ Z;have q7:=d.row.cell 7 _ Z;have q8:=d.row.cell 8 _ Z;have q9:=d.row.cell 9 _ Z;have a0:=d.row.cell 10 _ Z;have a1:=d.row.cell 11 _ Z;have a2:=d.row.cell 12 _ Z;go_wp2_with fail;refine(iC f c now s ak a cap _ d.cn N.o G.o T.o d.bl q).mono ?_;rintro e w9⟨rfl,l,i⟩;replace d:=H (d.call l i);clear l i;clear q0 q1 q2 q3 q4 q5 q6 q7 q8 q9 a0 a1 a2;go_wp2_with fail
      go_meet
      case rel=>exact d.eq k.o
     have k:=H (show A=c by rw[u.o];exact L7 (fun h=>by have:=h.2.2;omega));have aa:decide (c.gi<=ak)=true:=Le t;have bd:decide (ak<=c.next)=false:=Lh K;clear t K;go_wp2_with fail;refine(df f c _ d.cn).mono ?_;rintro e w4⟨rfl,g⟩;replace d:=H (d.qn g);clear g;go_wp2_with fail;refine(aZ f c _ d.cn).mono ?_;rintro e w5⟨rfl,g⟩;replace d:=H (d.qn g);clear g;go_wp2_with fail
     go_meet
     case rel=>exact d.eq k.o
    have k:=H (show A=c by rw[u.o];exact L7 (fun h=>by have:=h.2.1;omega));have aa:decide (c.gi<=ak)=false:=Lh t;clear t;go_wp2_with fail;refine(df f c _ d.cn).mono ?_;rintro e w4⟨rfl,g⟩;replace d:=H (d.qn g);clear g;go_wp2_with fail
    go_meet
    case rel=>exact d.eq k.o
   rw[Lh z];have k:=H (show A=c by rw[u.o];exact L7 (fun h=>z h.1));clear z;go_wp2_with fail
   go_meet
   case rel=>exact d.eq k.o
  case rest =>
   replace d:=H hcut;clear hcut u b6 b7 b8 q;have am:=d.cn.cell 28 (.int .i64 A.st) Z;have r5:=d.row.cell 5 s.fin Z
   go_upto_region 5 with fail
   go_cut [57]from 49 to 58 (fun v r=>v=(decide (A.st=9/\s.fin=true):Y)/\r=wc)
   case first =>
    by_cases B:A.st=9
    ·have H6:=H B;rw[B]at am;clear B;by_cases E:s.fin=true
     ·rw[E]at r5;have H7:=H E;clear E;go_wp2_with fail
      go_meet
      case rel=>exact⟨congrArg Value.bool (Le ⟨H6.o,H7.o⟩).symm,Z⟩
     have bv:s.fin=false:=by simpa using E
     rw[bv]at r5;have H7:=H E;clear E bv;go_wp2_with fail
     go_meet
     case rel=>exact⟨congrArg Value.bool (Lh (fun h=>H7.o h.2)).symm,Z⟩
    have c8:(A.st==9)=false:=Ln.2 B;have H6:=H B;clear B;go_wp2_with fail
    go_meet
    case rel=>exact⟨congrArg Value.bool (Lh (fun h=>H6.o h.1)).symm,Z⟩
   case rest =>
    obtain⟨rfl,a3⟩:=hcut;subst a3;clear am r5
    go_upto_if 57 with fail
    go_cut []from 57 to 63 (fun r=>Sw f w w.heap.size (s,a,cap) b r)
    case first =>
     by_cases p:A.st=9/\s.fin=true
     ·rw[Le p];have k:=H (show b={ A with per:=.Ck now 60 } by rw[HB.o];exact L9 p);clear p;go_wp2_with fail;refine(dP _ _ _).mono ?_;rintro e w7⟨rfl,g⟩;replace d:=H (d.qn g);clear g;have ca:=d.cn.cell 34 (.bool A.per.set) Z;have cb:=d.cn.cell 35 (.int .i64 A.per.since) Z;have ci:=d.cn.cell 36 (.int .i64 A.per.ticks) Z;have cl:=d.cn.free 34;have cs:=d.cn.free 35;have a6:=d.cn.free 36;have cM:=H (d.call (((d.cn.set 34 true { A with per:=⟨true,A.per.since,A.per.ticks⟩ } Z Z Z Z Z).set 35 now { A with per:=⟨true,now,A.per.ticks⟩ } Z Z Z Z Z).set 36 (60:Int) { A with per:=.Ck now 60 } Z Z Z Z Z) (.DO ((((nF.refl _ _).setCell 34 _).setCell 35 _).setCell 36 _)));go_wp2_with fail
      go_meet
      case rel=>exact cM.eq k.o
     rw[Lh p];have k:=H (show b=A by rw[HB.o];exact L7 p);clear p;go_wp2_with fail
     go_meet
     case rel=>exact d.eq k.o
    case rest =>
     replace d:=H hcut;clear hcut HB X;have q0:=d.row.cell 0 _ Z;have q1:=d.row.cell 1 _ Z;have q2:=d.row.cell 2 _ Z;have q3:=d.row.cell 3 _ Z;have q4:=d.row.cell 4 _ Z;have q5:=d.row.cell 5 _ Z;have q6:=d.row.cell 6 _ Z;have q7:=d.row.cell 7 _ Z;have q8:=d.row.cell 8 _ Z;have q9:=d.row.cell 9 _ Z;have a0:=d.row.cell 10 _ Z;have a1:=d.row.cell 11 _ Z;have a2:=d.row.cell 12 _ Z;go_wp2_with fail;refine(lN s a cap _ T.o).mono ?_;rintro e w8⟨rfl,g⟩;replace d:=H (d.qn g);clear g;clear q0 q1 q2 q3 q4 q5 q6 q7 q8 q9 a0 a1 a2;by_cases F:0<aq s
     ·have L:=H F;have cS:decide (0<aq s)=true:=Le F;clear F;go_wp2_with fail;refine(cK f b _ d.cn).mono ?_;rintro e w9⟨rfl,l,i⟩;replace d:=H (d.call l i);clear l i;go_wp2_with fail;refine(au f b.i2 now _ d.cn bn.i2 G.o).mono ?_;rintro e wz⟨v,rfl,M,l,i⟩;have HL:=H (show aL wz w.heap.size v _ from aL.base M d.ch.size);have b3:=H l;have b4:=H (d.ch.trans i);clear M l i;go_wp2;go_ret;exact⟨_,Z,by rw[n.o,L9 L.o];exact HL.o,by rw[n.o,L9 L.o];exact b3.o,b4.o⟩
     have L:=H F;have cS:decide (0<aq s)=false:=Lh F;clear F;go_wp2_with fail;refine(au f b now _ d.cn bn.o G.o).mono ?_;rintro e wz⟨v,rfl,M,l,i⟩;have HL:=H (show aL wz w.heap.size v _ from aL.base M d.ch.size);have b3:=H l;have b4:=H (d.ch.trans i);clear M l i;go_wp2;go_ret;exact⟨_,Z,by rw[n.o,L7 (by have:=L.o;omega)];exact HL.o,by rw[n.o,L7 (by have:=L.o;omega)];exact b3.o,b4.o⟩
end
section
set_option maxHeartbeats 8000000
set_option maxRecDepth 100000
open Go.RowKit Go.Shelf
def mp (f:Fp)(w:World)(L:List Sg)(d:Cn)(e:Ending)(w':World):Prop:=∃v g,e= .returned v/\aL w' w.heap.size v L/\kn { f with G:=g } d w'/\ot f w w'/\(g=f.G\/w.heap.size<=g)
theorem mp.same {f:Fp}{w:World}{L:List Sg}{d:Cn}{e:Ending}{w':World}(h:eA f w L d e w'):mp f w L d e w':=by
 obtain⟨v,h1,h2,a,b⟩:=h;exact⟨v,f.G,h1,h2,a,b,.inl Z⟩
def Cn.met (c:Cn)(s:Sg):Cn:={ c.meet s with tries:=0 }
def Cn.Fr (c:Cn)(now:Int):Cn:={ c with sc:=c.sc.i1 1 [],tm:=c.tm.i1 now 1 }
def Cn.HC (c:Cn):Cn:={ c with dl:=eE }
theorem Cn.Gb (c:Cn)(now:Int)(s:Sg):c.Ct now s =
 if s.has=true/\aE s.ak c.cf.ki≠1 then(if s.te=true then(c,[])else(c,[c.x3 s.ak]))
 else if s.te=true/\s.has=true then(c.finish now 8 184,[])
 else if s.syn=false then(c,[])
 else if s.has=false then(((c.met s).step now 2).Cc,[((c.met s).step now 2).x7])
 else((((c.met s).Fr now).step now 3).HC.i2).push now:=Z
theorem Cn.Ok.met {c:Cn}(h:c.Ok){s:Sg}(hs:s.Ok)(hy:s.syn=true):(c.met s).Ok/\(c.met s).tries<=12:=⟨(h.meet hs hy).DM,J4⟩
theorem Cn.Ok.Fr {c:Cn}(h:c.Ok)(now:Int):(c.Fr now).Ok:=(h.DH (h.sc.i1 1 [])).DY (Tm.Ce h.tm now 1)
theorem sP (f:Fp) (c:Cn) (now:Int) (s:Sg) (a:Option Addr) (cap:Nat) (w:World) (h:kn f c w) (ok:c.Ok) (hn:aI now) (hs:s.Ok) (hb:bE w a s.bl) (h0:c.st≠0) :
  Calls Tryz.prog 37 #[f.C,now,dY s a cap] w (mp f w (c.Ct now s).2 (c.Ct now s).1):=by
 have bk:=H (ok.tr2 h0);have HN:=H hn;have aC:=H hs;have b6:=h.gl.top;have b7:=h.lt;have HO:=H ok;have b:=H (Sw.start (x:=(s,a,cap)) h hb);clear h hb ok hs hn;unfold dY;obtain⟨R,hR⟩:∃R,R=c.Ct now s:=⟨_,Z⟩;rw[<-hR];have j:=H (hR.trans (Cn.Gb c now s));clear hR;have b2:=bP s.ak c.cf.ki;by_cases hh:s.has=true
 ·have n:=H hh;clear hh;obtain⟨ak,p⟩:∃ak,ak=aE s.ak c.cf.ki:=⟨_,Z⟩;rw[<-p]at j b2;by_cases L:ak=1
  ·have b3:(ak==1)=true:=Me.2 L;have cT:(ak != 1)=false:=by rw[L];rfl
   have N:=H L;clear L;by_cases A:s.te=true
   ·have r:=H A;clear A;replace j:=H (j.trans (by rw[L7 (fun e=>e.2 N.o),L9 ⟨r.o,n.o⟩]))
    go_enter Tryz.func37,Tryz.ntmps37
    go_wp2_with fail;change Code.wp _ _ _ _ (w.alloc (.cells (aX (s,a,cap)).toArray 53));generalize w.alloc (.cells (aX (s,a,cap)).toArray 53)=w1 at b|-;refine az (fun W:World=>W.cell? ⟨w.heap.size,7,none⟩=some (true:Y)/\W.cell? ⟨w.heap.size,3,none⟩=some (s.ak:Y)/\W.cell? ⟨f.C,24,none⟩=some (c.cf.ki:Y)) (⟨(b.row.cell 7 s.has Z).trans IT,b.row.cell 3 s.ak Z,b.cn.cell 24 c.cf.ki Z⟩) fun l=>?_;replace b:=H b.drew;generalize w1.drew=Gh at b l|-;refine aA 0 1 2 3 ?_;refine aA 4 5 6 7 ?_;refine aM 8 9 ?_;refine aY 10 fun F m=> ?_;go_simp;refine(de _ _ _).mono ?_;rintro e w2⟨rfl,rfl⟩;go_simp;refine m.out _ _ (⟨(b.row.cell 7 s.has Z).trans IT,b.row.cell 3 s.ak Z,b.cn.cell 24 c.cf.ki Z⟩) ?_;clear m F l;refine fun l=>aW ?_;refine aM 11 12 ?_;refine aQ 13 ?_;refine ay ?_ _;clear l;rw[<-p];clear p;have I:=(b.row.cell 6 s.te Z).trans Jj;have c7:=(b.row.cell 7 s.has Z).trans IT;go_wp2_with fail;refine(eN f c now 8 184 _ b.cn HO.st D).mono ?_;rintro e B⟨rfl,q,d⟩;replace b:=H (b.call q d);clear q d;go_wp2;go_ret;exact⟨_,f.G,Z,JK,JL,b.ch,.inl Z⟩
   have r:=H (show s.te=false by simpa using A);clear A;by_cases hy:s.syn=false
   ·have t:=H hy;clear hy;replace j:=H (j.trans (by rw[L7 (fun e=>e.2 N.o),L7 (fun e=>by have:=r.symm.trans e.1;cases this),L9 t.o]))
    go_enter Tryz.func37,Tryz.ntmps37
    go_wp2_with fail;change Code.wp _ _ _ _ (w.alloc (.cells (aX (s,a,cap)).toArray 53));generalize w.alloc (.cells (aX (s,a,cap)).toArray 53)=w1 at b|-;refine az (fun W:World=>W.cell? ⟨w.heap.size,7,none⟩=some (true:Y)/\W.cell? ⟨w.heap.size,3,none⟩=some (s.ak:Y)/\W.cell? ⟨f.C,24,none⟩=some (c.cf.ki:Y)) (⟨(b.row.cell 7 s.has Z).trans IT,b.row.cell 3 s.ak Z,b.cn.cell 24 c.cf.ki Z⟩) fun l=>?_;replace b:=H b.drew;generalize w1.drew=Gh at b l|-;refine aA 0 1 2 3 ?_;refine aA 4 5 6 7 ?_;refine aM 8 9 ?_;refine aY 10 fun F m=> ?_;go_simp;refine(de _ _ _).mono ?_;rintro e w2⟨rfl,rfl⟩;go_simp;refine m.out _ _ (⟨(b.row.cell 7 s.has Z).trans IT,b.row.cell 3 s.ak Z,b.cn.cell 24 c.cf.ki Z⟩) ?_;clear m F l;refine fun l=>aW ?_;refine aM 11 12 ?_;refine aQ 13 ?_;refine ay ?_ _;clear l;rw[<-p];clear p;have I:=(b.row.cell 6 s.te Z).trans Jj;have P:=(b.row.cell 4 s.syn Z).trans (by rw[t.o]);go_wp2;go_ret;exact⟨_,f.G,Z,JK,JL,b.ch,.inl Z⟩
   have t:=H (show s.syn=true by simpa using hy);clear hy;replace j:=H (j.trans (by rw[L7 (fun e=>e.2 N.o),L7 (fun e=>by have:=r.symm.trans e.1;cases this),L7 (fun e=>by have:=t.symm.trans e;cases this),L7 (fun e=>by have:=n.symm.trans e;cases this)]));obtain⟨R2,z⟩:∃R2,R2=R:=⟨_,Z⟩;have E:=H j.o;replace j:=H z;rw[<-z];clear z
   go_enter Tryz.func37,Tryz.ntmps37
   go_wp2_with fail;change Code.wp _ _ _ _ (w.alloc (.cells (aX (s,a,cap)).toArray 53));generalize w.alloc (.cells (aX (s,a,cap)).toArray 53)=w1 at b|-;refine az (fun W:World=>W.cell? ⟨w.heap.size,7,none⟩=some (true:Y)/\W.cell? ⟨w.heap.size,3,none⟩=some (s.ak:Y)/\W.cell? ⟨f.C,24,none⟩=some (c.cf.ki:Y)) (⟨(b.row.cell 7 s.has Z).trans IT,b.row.cell 3 s.ak Z,b.cn.cell 24 c.cf.ki Z⟩) fun l=>?_;replace b:=H b.drew;generalize w1.drew=Gh at b l|-;refine aA 0 1 2 3 ?_;refine aA 4 5 6 7 ?_;refine aM 8 9 ?_;refine aY 10 fun F m=> ?_;go_simp;refine(de _ _ _).mono ?_;rintro e w2⟨rfl,rfl⟩;go_simp;refine m.out _ _ (⟨(b.row.cell 7 s.has Z).trans IT,b.row.cell 3 s.ak Z,b.cn.cell 24 c.cf.ki Z⟩) ?_;clear m F l;refine fun l=>aW ?_;refine aM 11 12 ?_;refine aQ 13 ?_;refine ay ?_ _;clear l;rw[<-p];clear p;have I:=(b.row.cell 6 s.te Z).trans Jj;have P:=(b.row.cell 4 s.syn Z).trans (by rw[t.o])
   go_upto_region 10 with fail
   clear P I;have q0:=b.row.cell 0 _ Z;have q1:=b.row.cell 1 _ Z;have q2:=b.row.cell 2 _ Z;have q3:=b.row.cell 3 _ Z;have q4:=b.row.cell 4 _ Z;have q5:=b.row.cell 5 _ Z;have q6:=b.row.cell 6 _ Z;have q7:=b.row.cell 7 _ Z;have q8:=b.row.cell 8 _ Z;have q9:=b.row.cell 9 _ Z;have a0:=b.row.cell 10 _ Z;have a1:=b.row.cell 11 _ Z;have a2:=b.row.cell 12 _ Z;go_wp2_with fail;refine(kg f c s a cap _ b.cn HO.o aC.o t.o).mono ?_;rintro e wm⟨rfl,g,hg,q,d⟩;have bb:=H (b.ch.trans d);have b5:=H (La b.ch.size hg);have i:=H (show Sw { f with G:=g } wm w.heap.size (s,a,cap) (c.meet s) wm from⟨q,.refl _ _,b.row.xs b.cn d,b.bl.xs b.cn d,b.top⟩);clear hg q d b;clear q0 q1 q2 q3 q4 q5 q6 q7 q8 q9 a0 a1 a2;have an:=H (HO.met aC.o t.o);have b4:f.C<wm.heap.size:=i.cn.lt;have cV:wm.cell? ⟨f.C,33,none⟩=some ((c.meet s).tries:Y):=i.cn.cell 33 _ Z;have cX:wm.frozen? ⟨f.C,33,none⟩=false:=i.cn.free 33;have bz:=H (show wm.cell? f.C=some (f.S:Y)from i.cn.cell 0 _ Z);replace i:=H (i.call (i.cn.set 33 (0:Int) (c.met s) Z Z Z Z Z) (.DO ((nF.refl _ _).setCell 33 _)));generalize c.met s=d1 at i an E;have m7:=(i.row.cell 7 s.has Z).trans IT;have c0:wm.cell? f.C=some (f.S:Y):=bz.out;go_wp2_with fail;clear c0;refine(lH f.S (f.S+1) d1.sc 1 none 0 [] _ an.1.sc i.cn.sc ⟨⟨IK,fun h=>by simp at h⟩,fun h=>by simp at h⟩ (by rw[LP];have:=an.1.GP;omega)).mono ?_;rintro e B⟨rfl,a3,d⟩;replace i:=H (i.call (i.cn.G3 a3 d) (.F6 d));clear a3 d;have U:=H (an.1.Fr now);have c1:B.cell? ⟨f.C,1,none⟩=some (f.T:Y):=i.cn.cell 1 _ Z;go_wp2_with fail;clear c1;refine(nh f.T d1.tm now 1 HN.o an.1.tm _ i.cn.tm).mono ?_;rintro e B⟨rfl,b0,d⟩;replace i:=H (i.call (i.cn.GM b0 d) (.GL d));clear b0 d;replace i:=H (i.eq (show d1.Fr now=_ from Z));have b9:=H (show(d1.Fr now).tries<=12 from an.2);generalize d1.Fr now=d2 at i U b9 E;go_wp2_with fail;refine(cR { f with G:=g } d2 now 3 _ i.cn U.st D).mono ?_;rintro e B⟨rfl,q,d⟩;replace i:=H (i.call q d);clear q d;have av:=H (U.step HN.o b9.o 3);generalize d2.step now 3=d3 at i av E;have cw:B.cell? ⟨f.C,30,none⟩=some (d3.dl.set:Y):=i.cn.cell 30 _ Z;have dT:B.cell? ⟨f.C,31,none⟩=some (d3.dl.since:Y):=i.cn.cell 31 _ Z;have d0:B.cell? ⟨f.C,32,none⟩=some (d3.dl.ticks:Y):=i.cn.cell 32 _ Z;have d8:B.frozen? ⟨f.C,30,none⟩=false:=i.cn.free 30;have d9:B.frozen? ⟨f.C,31,none⟩=false:=i.cn.free 31;have b8:B.frozen? ⟨f.C,32,none⟩=false:=i.cn.free 32;replace i:=H (i.call (((i.cn.set 30 false { d3 with dl:=⟨false,d3.dl.since,d3.dl.ticks⟩ } Z Z Z Z Z).set 31 (0:Int) { d3 with dl:=⟨false,0,d3.dl.ticks⟩ } Z Z Z Z Z).set 32 (0:Int) d3.HC Z Z Z Z Z) (.DO ((((nF.refl _ _).setCell 30 _).setCell 31 _).setCell 32 _)));have cC:=H (show d3.HC.Ok from av.EJ dx);generalize d3.HC=d4 at i cC E;go_wp2_with fail;refine(cK { f with G:=g } d4 _ i.cn).mono ?_;rintro e B⟨rfl,q,d⟩;replace i:=H (i.call q d);clear q d;have ac:=H cC.i2;generalize d4.i2=d5 at i ac E;go_wp2_with fail;refine(au { f with G:=g } d5 now _ i.cn ac.o HN.o).mono ?_;rintro e wz⟨v,rfl,hl,q,d⟩;have HL:=H (show aL wz w.heap.size v _ from aL.base hl (La bb.size i.ch.size));have a5:=H q;have a6:=H (bb.trans' (i.ch.trans d) Z Z Z (.inr b5.o) Z Z);clear hl q d;go_wp2;go_ret;exact⟨_,g,Z,by rw[j.o,E.o];exact HL.o,by rw[j.o,E.o];exact a5.o,a6.o,.inr b5.o⟩
  have b3:(ak==1)=false:=Ln.2 L;have cT:(ak != 1)=true:=bne_iff_ne.2 L;have N:=H L;clear L;by_cases A:s.te=true
  ·have r:=H A;clear A;replace j:=H (j.trans (by rw[L9 ⟨n.o,N.o⟩,L9 r.o]))
   go_enter Tryz.func37,Tryz.ntmps37
   go_wp2_with fail;change Code.wp _ _ _ _ (w.alloc (.cells (aX (s,a,cap)).toArray 53));generalize w.alloc (.cells (aX (s,a,cap)).toArray 53)=w1 at b|-;refine az (fun W:World=>W.cell? ⟨w.heap.size,7,none⟩=some (true:Y)/\W.cell? ⟨w.heap.size,3,none⟩=some (s.ak:Y)/\W.cell? ⟨f.C,24,none⟩=some (c.cf.ki:Y)) (⟨(b.row.cell 7 s.has Z).trans IT,b.row.cell 3 s.ak Z,b.cn.cell 24 c.cf.ki Z⟩) fun l=>?_;replace b:=H b.drew;generalize w1.drew=Gh at b l|-;refine aA 0 1 2 3 ?_;refine aA 4 5 6 7 ?_;refine aM 8 9 ?_;refine aY 10 fun F m=> ?_;go_simp;refine(de _ _ _).mono ?_;rintro e w2⟨rfl,rfl⟩;go_simp;refine m.out _ _ (⟨(b.row.cell 7 s.has Z).trans IT,b.row.cell 3 s.ak Z,b.cn.cell 24 c.cf.ki Z⟩) ?_;clear m F l;refine fun l=>aW ?_;refine aM 11 12 ?_;refine aQ 13 ?_;refine ay ?_ _;clear l;rw[<-p];clear p;have I:=(b.row.cell 6 s.te Z).trans Jj;go_wp2;go_ret;exact⟨_,f.G,Z,JK,JL,b.ch,.inl Z⟩
  have r:=H (show s.te=false by simpa using A);clear A;replace j:=H (j.trans (by rw[L9 ⟨n.o,N.o⟩,L7 (fun e=>by have:=r.symm.trans e;cases this)]))
  go_enter Tryz.func37,Tryz.ntmps37
  go_wp2_with fail;change Code.wp _ _ _ _ (w.alloc (.cells (aX (s,a,cap)).toArray 53));generalize w.alloc (.cells (aX (s,a,cap)).toArray 53)=w1 at b|-;refine az (fun W:World=>W.cell? ⟨w.heap.size,7,none⟩=some (true:Y)/\W.cell? ⟨w.heap.size,3,none⟩=some (s.ak:Y)/\W.cell? ⟨f.C,24,none⟩=some (c.cf.ki:Y)) (⟨(b.row.cell 7 s.has Z).trans IT,b.row.cell 3 s.ak Z,b.cn.cell 24 c.cf.ki Z⟩) fun l=>?_;replace b:=H b.drew;generalize w1.drew=Gh at b l|-;refine aA 0 1 2 3 ?_;refine aA 4 5 6 7 ?_;refine aM 8 9 ?_;refine aY 10 fun F m=> ?_;go_simp;refine(de _ _ _).mono ?_;rintro e w2⟨rfl,rfl⟩;go_simp;refine m.out _ _ (⟨(b.row.cell 7 s.has Z).trans IT,b.row.cell 3 s.ak Z,b.cn.cell 24 c.cf.ki Z⟩) ?_;clear m F l;refine fun l=>aW ?_;refine aM 11 12 ?_;refine aQ 13 ?_;refine ay ?_ _;clear l;rw[<-p];clear p;have I:=(b.row.cell 6 s.te Z).trans Jj;have c3:=b.row.cell 3 s.ak Z;go_wp2_with fail;refine(jN f c s.ak _ b.cn).mono ?_;rintro e u⟨rfl,hb⟩;replace b:=H (b.qn hb);clear hb;clear c3;have J:=H (bE.nil u none)
  skip
  unfold dY;have K:=(L5 u.heap.size u).alloc (L6 _) (.cells (aX ((c.x3 s.ak),none,0)).toArray 53);have M:=H (bj (aS.new u ((c.x3 s.ak),none,0)));replace J:=H (J.keep K.size (.below K));replace b:=H (b.qn K);clear K;go_wp2_with fail;change Calls _ _ #[Value.slice none 0 0,Value.slice (some ⟨u.heap.size,0,none⟩) [(((c.x3 s.ak),none,0):cP)].length 1] (u.alloc (.cells (aX ((c.x3 s.ak),none,0)).toArray 53)) _;generalize u.heap.size=NB at M|-;generalize u.alloc (.cells (aX ((c.x3 s.ak),none,0)).toArray 53)=w6 at M b J|-;refine(cN w6 w.heap.size _ [] (cI.nil _ _) NB 0 1 [((c.x3 s.ak),none,0)] M.o (fun y hy=>by rw[Ly.1 hy];exact J.o) IK b.ch.size).mono ?_;rintro e w8⟨v',rfl,h1,h2,-⟩;have a5:=H (b.cn.grown h2 (fun k e=>by cases e));have a6:=H (b.ch.grown h2 (fun k e=>by cases e));have HL:=H (show aL w8 w.heap.size v' [c.x3 s.ak]from⟨_,Z,h1⟩);clear h1 h2;go_wp2;go_ret;exact⟨_,f.G,Z,by rw[j.o];exact HL.o,by rw[j.o];exact a5.o,a6.o,.inl Z⟩
 have n:=H (show s.has=false by simpa using hh);clear hh;by_cases A:s.te=true
 ·have r:=H A;clear A;have t:=H (show s.syn=false by cases hq:s.syn with | false=>rfl | true=>exact absurd ⟨hq,r.o⟩ aC.fl.2.1);replace j:=H (j.trans (by rw[L7 (fun e=>by have:=n.symm.trans e.1;cases this),L7 (fun e=>by have:=n.symm.trans e.2;cases this),L9 t.o]))
  go_enter Tryz.func37,Tryz.ntmps37
  go_wp2_with fail;change Code.wp _ _ _ _ (w.alloc (.cells (aX (s,a,cap)).toArray 53));generalize w.alloc (.cells (aX (s,a,cap)).toArray 53)=w1 at b|-;refine az (fun W:World=>W.cell? ⟨w.heap.size,7,none⟩=some (false:Y)) (((b.row.cell 7 s.has Z).trans IT)) fun l=>?_;replace b:=H b.drew;generalize w1.drew=Gh at b l|-;refine aM 0 1 ?_;refine aQ 2 ?_;refine aU 3 ?_;refine aU 4 ?_;refine aU 5 ?_;refine aU 6 ?_;refine aU 7 ?_;refine aU 8 ?_;refine aU 9 ?_;refine aU 10 ?_;refine aU 11 ?_;refine aM 12 13 ?_;refine ay ?_ _;clear l;have I:=(b.row.cell 6 s.te Z).trans Jj;have c7:=(b.row.cell 7 s.has Z).trans IT;have P:=(b.row.cell 4 s.syn Z).trans (by rw[t.o]);go_wp2;go_ret;exact⟨_,f.G,Z,JK,JL,b.ch,.inl Z⟩
 have r:=H (show s.te=false by simpa using A);clear A;by_cases hy:s.syn=false
 ·have t:=H hy;clear hy;replace j:=H (j.trans (by rw[L7 (fun e=>by have:=n.symm.trans e.1;cases this),L7 (fun e=>by have:=r.symm.trans e.1;cases this),L9 t.o]))
  go_enter Tryz.func37,Tryz.ntmps37
  go_wp2_with fail;change Code.wp _ _ _ _ (w.alloc (.cells (aX (s,a,cap)).toArray 53));generalize w.alloc (.cells (aX (s,a,cap)).toArray 53)=w1 at b|-;refine az (fun W:World=>W.cell? ⟨w.heap.size,7,none⟩=some (false:Y)) (((b.row.cell 7 s.has Z).trans IT)) fun l=>?_;replace b:=H b.drew;generalize w1.drew=Gh at b l|-;refine aM 0 1 ?_;refine aQ 2 ?_;refine aU 3 ?_;refine aU 4 ?_;refine aU 5 ?_;refine aU 6 ?_;refine aU 7 ?_;refine aU 8 ?_;refine aU 9 ?_;refine aU 10 ?_;refine aU 11 ?_;refine aM 12 13 ?_;refine ay ?_ _;clear l;have I:=(b.row.cell 6 s.te Z).trans Jj;have P:=(b.row.cell 4 s.syn Z).trans (by rw[t.o]);go_wp2;go_ret;exact⟨_,f.G,Z,JK,JL,b.ch,.inl Z⟩
 have t:=H (show s.syn=true by simpa using hy);clear hy;replace j:=H (j.trans (by rw[L7 (fun e=>by have:=n.symm.trans e.1;cases this),L7 (fun e=>by have:=r.symm.trans e.1;cases this),L7 (fun e=>by have:=t.symm.trans e;cases this),L9 n.o]));obtain⟨R2,z⟩:∃R2,R2=R:=⟨_,Z⟩;have E:=H j.o;replace j:=H z;rw[<-z];clear z
 go_enter Tryz.func37,Tryz.ntmps37
 go_wp2_with fail;change Code.wp _ _ _ _ (w.alloc (.cells (aX (s,a,cap)).toArray 53));generalize w.alloc (.cells (aX (s,a,cap)).toArray 53)=w1 at b|-;refine az (fun W:World=>W.cell? ⟨w.heap.size,7,none⟩=some (false:Y)) (((b.row.cell 7 s.has Z).trans IT)) fun l=>?_;replace b:=H b.drew;generalize w1.drew=Gh at b l|-;refine aM 0 1 ?_;refine aQ 2 ?_;refine aU 3 ?_;refine aU 4 ?_;refine aU 5 ?_;refine aU 6 ?_;refine aU 7 ?_;refine aU 8 ?_;refine aU 9 ?_;refine aU 10 ?_;refine aU 11 ?_;refine aM 12 13 ?_;refine ay ?_ _;clear l;have I:=(b.row.cell 6 s.te Z).trans Jj;have P:=(b.row.cell 4 s.syn Z).trans (by rw[t.o])
 go_upto_region 10 with fail
 clear P I;have q0:=b.row.cell 0 _ Z;have q1:=b.row.cell 1 _ Z;have q2:=b.row.cell 2 _ Z;have q3:=b.row.cell 3 _ Z;have q4:=b.row.cell 4 _ Z;have q5:=b.row.cell 5 _ Z;have q6:=b.row.cell 6 _ Z;have q7:=b.row.cell 7 _ Z;have q8:=b.row.cell 8 _ Z;have q9:=b.row.cell 9 _ Z;have a0:=b.row.cell 10 _ Z;have a1:=b.row.cell 11 _ Z;have a2:=b.row.cell 12 _ Z;go_wp2_with fail;refine(kg f c s a cap _ b.cn HO.o aC.o t.o).mono ?_;rintro e wm⟨rfl,g,hg,q,d⟩;have bb:=H (b.ch.trans d);have b5:=H (La b.ch.size hg);have i:=H (show Sw { f with G:=g } wm w.heap.size (s,a,cap) (c.meet s) wm from⟨q,.refl _ _,b.row.xs b.cn d,b.bl.xs b.cn d,b.top⟩);clear hg q d b;clear q0 q1 q2 q3 q4 q5 q6 q7 q8 q9 a0 a1 a2;have an:=H (HO.met aC.o t.o);have b4:f.C<wm.heap.size:=i.cn.lt;have cV:wm.cell? ⟨f.C,33,none⟩=some ((c.meet s).tries:Y):=i.cn.cell 33 _ Z;have cX:wm.frozen? ⟨f.C,33,none⟩=false:=i.cn.free 33;have bz:=H (show wm.cell? f.C=some (f.S:Y)from i.cn.cell 0 _ Z);replace i:=H (i.call (i.cn.set 33 (0:Int) (c.met s) Z Z Z Z Z) (.DO ((nF.refl _ _).setCell 33 _)));generalize c.met s=d1 at i an E;have m7:=(i.row.cell 7 s.has Z).trans IT;go_wp2_with fail;refine(cR { f with G:=g } d1 now 2 _ i.cn an.1.st D).mono ?_;rintro e B⟨rfl,q,d⟩;replace i:=H (i.call q d);clear q d;have U:=H (an.1.step HN.o an.2 2);generalize d1.step now 2=d2 at i U E;go_wp2_with fail;refine(jp { f with G:=g } d2 _ i.cn U.o).mono ?_;rintro e u⟨V,X,rfl,b1,q,d⟩;replace i:=H (i.call q d);have J:=H b1;clear q d b1;unfold dY;have K:=(L5 u.heap.size u).alloc (L6 _) (.cells (aX (d2.x7,V,X)).toArray 53);have M:=H (bj (aS.new u (d2.x7,V,X)));replace J:=H (J.keep K.size (.below K));replace i:=H (i.qn K);clear K;go_wp2_with fail;change Calls _ _ #[Value.slice none 0 0,Value.slice (some ⟨u.heap.size,0,none⟩) [((d2.x7,V,X):cP)].length 1] (u.alloc (.cells (aX (d2.x7,V,X)).toArray 53)) _;generalize u.heap.size=NB at M|-;generalize u.alloc (.cells (aX (d2.x7,V,X)).toArray 53)=w6 at M i J|-;refine(cN w6 w.heap.size _ [] (cI.nil _ _) NB 0 1 [(d2.x7,V,X)] M.o (fun y hy=>by rw[Ly.1 hy];exact J.o) IK (La bb.size i.ch.size)).mono ?_;rintro e w8⟨v',rfl,h1,h2,-⟩;have a5:=H (i.cn.grown h2 (fun k e=>by cases e));have a6:=H (bb.trans' (i.ch.grown h2 (fun k e=>by cases e)) Z Z Z (.inr b5.o) Z Z);have HL:=H (show aL w8 w.heap.size v' [d2.x7]from⟨_,Z,h1⟩);clear h1 h2;go_wp2;go_ret;exact⟨_,g,Z,by rw[j.o,E.o];exact HL.o,by rw[j.o,E.o];exact a5.o,a6.o,.inr b5.o⟩
end
section
set_option maxHeartbeats 8000000
set_option maxRecDepth 100000
open Go.RowKit Go.Shelf
theorem Cn.Fs (c:Cn)(now:Int)(s:Sg):c.receive now s =
 if c.st=0 then(c,[])
 else if s.fp≠c.cf.tp\/s.tp≠c.cf.fp then(c,[])
 else if c.st=1 then c.Ct now s
 else if s.te=true/\c.offset s.sq=c.expected then(c.finish now 8 181,[])
 else if s.te=true/\c.accepts (c.offset s.sq) (aq s)=false then(c,[])
 else if c.accepts (c.offset s.sq) (aq s)=false then c.stray now s
 else if s.te=true\/s.syn=true then c.i2.push now
 else if s.has=false then(c,[])
 else c.process now s (c.offset s.sq):=Z
theorem iD (s:Sg)(a:Option Addr)(cap:Nat)(w:World)(b:bE w a s.bl) :
  Calls Tryz.prog 36 #[dY s a cap] w fun e w'=>e= .returned s.okB/\Below w.heap.size w w':=by
 unfold dY;exact kB s w.heap.size a cap w b.1 (L6 _)
theorem eY (f:Fp) (c:Cn) (now:Int) (s:Sg) (a:Option Addr) (cap:Nat) (w:World) (h:kn f c w) (ok:c.Ok) (hn:aI now) (hs:s.Ok) (j:bE w a s.bl) :
  Calls Tryz.prog 19 #[f.C,now,dY s a cap] w (mp f w (c.receive now s).2 (c.receive now s).1):=by
 have N:=H hn;have L:=H hs;have a4:=h.gl.top;have a7:=h.lt;have y:=H ok;have b:=H (Sw.start (x:=(s,a,cap)) h j);clear h j ok hs hn;unfold dY;have da:=(Sg.Ej s).2 L.o;obtain⟨R,hR⟩:∃R,R=c.receive now s:=⟨_,Z⟩;rw[<-hR];have d:=H (hR.trans (Cn.Fs c now s));clear hR
 go_enter Tryz.func19,Tryz.ntmps19
 go_wp2_with fail;change Calls _ _ _ (w.alloc (.cells (aX (s,a,cap)).toArray 53)) _;generalize w.alloc (.cells (aX (s,a,cap)).toArray 53)=w1 at b|-;refine(bh f c _ b.cn).mono ?_;rintro e w2⟨rfl,j⟩;replace b:=H (b.qn j);clear j;by_cases h0:c.st=0
 ·replace d:=H (d.trans (by rw[L9 h0]));have a3:decide (c.st=0)=true:=Le h0;clear h0;go_wp2;go_ret;exact⟨_,f.G,Z,Jd,Jw,b.ch,.inl Z⟩
 have H0:=H h0;have a3:decide (c.st=0)=false:=Lh h0;clear h0;replace d:=H (d.trans (by rw[L7 H0.o]));have P:=b.row.cell 0 _ Z;have S:=b.row.cell 1 _ Z;have T:=b.row.cell 2 _ Z;have U:=b.row.cell 3 _ Z;have V:=b.row.cell 4 _ Z;have X:=b.row.cell 5 _ Z;have q6:=b.row.cell 6 _ Z;have q7:=b.row.cell 7 _ Z;have q8:=b.row.cell 8 _ Z;have q9:=b.row.cell 9 _ Z;have a0:=b.row.cell 10 _ Z;have a1:=b.row.cell 11 _ Z;have a2:=b.row.cell 12 _ Z;go_wp2_with fail;refine(iD s a cap _ b.bl).mono ?_;rintro e w2⟨rfl,j⟩;replace b:=H (b.qn j);clear j;clear P S T U V X q6 q7 q8 q9 a0 a1 a2;go_wp2_with fail;by_cases hp:s.fp=c.cf.tp
 ·have M:=H hp;clear hp;by_cases hq:s.tp=c.cf.fp
  ·have HQ:=H hq;clear hq;replace d:=H (d.trans (by rw[L7 (by rintro (h | h);exact h M.o;exact h HQ.o)]));refine az (fun W:World=>W.cell? w.heap.size=some (s.fp:Y)/\W.cell? ⟨w.heap.size,1,none⟩=some (s.tp:Y)/\W.cell? ⟨f.C,23,none⟩=some (c.cf.tp:Y)/\W.cell? ⟨f.C,22,none⟩=some (c.cf.fp:Y)) (⟨b.row.cell 0 s.fp Z,b.row.cell 1 s.tp Z,b.cn.cell 23 c.cf.tp Z,b.cn.cell 22 c.cf.fp Z⟩) fun k=>?_;replace b:=H b.drew;generalize m:World.drew _=Hn at b k|-;clear m;refine aA 0 1 2 3 ?_;refine aM 4 5 ?_;refine aQ 6 ?_;refine aQ 7 (v:=.bool false) ?_ (hy:=PE);refine aA 8 9 10 11 ?_;refine aA 12 13 14 15 ?_;refine aQ 16 (v:=.bool false) ?_ (hy:=KP);refine aQ 17 ?_;refine ay ?_ _;clear k;have am:=b.cn.cell 28 c.st Z;by_cases h1:c.st=1
   ·have H1:=H h1;rw[h1]at am;clear h1;replace d:=H (d.trans (by rw[L9 H1.o]));have P:=b.row.cell 0 _ Z;have S:=b.row.cell 1 _ Z;have T:=b.row.cell 2 _ Z;have U:=b.row.cell 3 _ Z;have V:=b.row.cell 4 _ Z;have X:=b.row.cell 5 _ Z;have q6:=b.row.cell 6 _ Z;have q7:=b.row.cell 7 _ Z;have q8:=b.row.cell 8 _ Z;have q9:=b.row.cell 9 _ Z;have a0:=b.row.cell 10 _ Z;have a1:=b.row.cell 11 _ Z;have a2:=b.row.cell 12 _ Z;go_wp2_with fail;refine(sP f c now s a cap _ b.cn y.o N.o L.o b.bl H0.o).mono ?_;rintro e F⟨v,g,rfl,r,l,i,hg⟩;clear P S T U V X q6 q7 q8 q9 a0 a1 a2;have I:=H (show aL F w.heap.size v _ from aL.base r b.ch.size);have J:=H l;have K:=H (b.ch.trans i);have b5:=H (hg.imp id (La b.ch.size));clear r l i hg am;go_wp2;go_ret;exact⟨_,g,Z,Pc,Pt,K.o,b5.o⟩
   have cY:=H (show 0<=aq s/\aq s<=2048 by have:=uu L.o;omega);have c2:=H (show -1099511627776<=c.ann/\c.ann<=2199023255552 by have:=y.ann;omega);have H1:=H h1;have a9:(c.st==1)=false:=Ln.2 h1;clear h1;replace d:=H (d.trans (by rw[L7 H1.o]));go_wp2_with fail;refine az (fun W:World=>W.cell? ⟨w.heap.size,2,none⟩=some (s.sq:Y)) (b.row.cell 2 s.sq Z) fun k=>?_;replace b:=H b.drew;generalize m:World.drew _=Il at b k|-;clear m;refine aA 0 1 2 3 ?_;refine aQ 4 ?_;refine aY 5 fun Kq p=> ?_;go_simp;refine(qY f c s.sq _ b.cn).mono ?_;rintro e w5⟨rfl,j⟩;replace b:=H (b.qn j);clear j;go_simp;refine p.out _ _ (b.row.cell 2 s.sq Z) ?_;clear p Kq k;refine fun k=>aW ?_;refine aQ 6 ?_;refine ay ?_ _;clear k;have cF:=bP s.sq (aw c.A2 1);have be:=H (show -2147483648<=c.offset s.sq/\c.offset s.sq<=2147483647 from cF);clear cF;obtain⟨off,A⟩:∃off,off=c.offset s.sq:=⟨_,Z⟩;rw[<-A]at d be|-;clear A;go_wp2_with fail;refine az (fun W:World=>W.cell? w.heap.size=some (s.fp:Y)/\W.cell? ⟨w.heap.size,1,none⟩=some (s.tp:Y)/\W.cell? ⟨w.heap.size,2,none⟩=some (s.sq:Y)/\W.cell? ⟨w.heap.size,3,none⟩=some (s.ak:Y)/\W.cell? ⟨w.heap.size,4,none⟩=some (s.syn:Y)/\W.cell? ⟨w.heap.size,5,none⟩=some (s.fin:Y)/\W.cell? ⟨w.heap.size,6,none⟩=some (s.te:Y)/\W.cell? ⟨w.heap.size,7,none⟩=some (s.has:Y)/\W.cell? ⟨w.heap.size,8,none⟩=some (s.win:Y)/\W.cell? ⟨w.heap.size,9,none⟩=some (s.go:Y)/\W.cell? ⟨w.heap.size,10,none⟩=some (s.ke:Y)/\W.cell? ⟨w.heap.size,11,none⟩=some (.slice a s.bl.length cap)/\W.cell? ⟨w.heap.size,12,none⟩=some (.string ⟨s.s.toArray⟩)) (⟨b.row.cell 0 s.fp Z,b.row.cell 1 s.tp Z,b.row.cell 2 s.sq Z,b.row.cell 3 s.ak Z,b.row.cell 4 s.syn Z,b.row.cell 5 s.fin Z,b.row.cell 6 s.te Z,b.row.cell 7 s.has Z,b.row.cell 8 s.win Z,b.row.cell 9 s.go Z,b.row.cell 10 s.ke Z,b.row.cell 11 (.slice a s.bl.length cap) Z,b.row.cell 12 (.string ⟨s.s.toArray⟩) Z⟩) fun k=>?_;replace b:=H b.drew;generalize m:World.drew _=Il at b k|-;clear m;refine aA 0 1 2 3 ?_;refine aQ 4 ?_;refine aY 5 fun Kq p=> ?_;go_simp;refine(lN s a cap _ L.o).mono ?_;rintro e w6⟨rfl,j⟩;replace b:=H (b.qn j);clear j;go_simp;refine p.out _ _ (⟨b.row.cell 0 s.fp Z,b.row.cell 1 s.tp Z,b.row.cell 2 s.sq Z,b.row.cell 3 s.ak Z,b.row.cell 4 s.syn Z,b.row.cell 5 s.fin Z,b.row.cell 6 s.te Z,b.row.cell 7 s.has Z,b.row.cell 8 s.win Z,b.row.cell 9 s.go Z,b.row.cell 10 s.ke Z,b.row.cell 11 (.slice a s.bl.length cap) Z,b.row.cell 12 (.string ⟨s.s.toArray⟩) Z⟩) ?_;clear p Kq k;refine fun k=>aW ?_;refine aY 6 fun Kq p=> ?_;go_simp;refine(pC f c off (aq s) _ b.cn y.bx be.o cY.o c2.o).mono ?_;rintro e w7⟨rfl,j⟩;replace b:=H (b.qn j);clear j;go_simp;refine p.out _ _ (⟨b.row.cell 0 s.fp Z,b.row.cell 1 s.tp Z,b.row.cell 2 s.sq Z,b.row.cell 3 s.ak Z,b.row.cell 4 s.syn Z,b.row.cell 5 s.fin Z,b.row.cell 6 s.te Z,b.row.cell 7 s.has Z,b.row.cell 8 s.win Z,b.row.cell 9 s.go Z,b.row.cell 10 s.ke Z,b.row.cell 11 (.slice a s.bl.length cap) Z,b.row.cell 12 (.string ⟨s.s.toArray⟩) Z⟩) ?_;clear p Kq k;refine fun k=>aW ?_;refine aQ 7 ?_;refine ay ?_ _;clear k;obtain⟨q,B⟩:∃q,q=c.accepts off (aq s):=⟨_,Z⟩;rw[<-B]at d|-;clear B;by_cases hr:s.te=true
   ·have u:=H hr;clear hr;have c6:=(b.row.cell 6 s.te Z).trans (by rw[u.o]);go_wp2_with fail;refine(fg f c _ b.cn y.bx).mono ?_;rintro e w7⟨rfl,j⟩;replace b:=H (b.qn j);clear j;have c6:=(b.row.cell 6 s.te Z).trans (by rw[u.o]);by_cases he:off=c.expected
    ·have HE:=H he;have c5:(off==c.expected)=true:=Me.2 he;clear he;replace d:=H (d.trans (by rw[L9 ⟨u.o,HE.o⟩]));go_wp2_with fail;refine(eN f c now 8 181 _ b.cn y.st D).mono ?_;rintro e w9⟨rfl,l,i⟩;replace b:=H (b.call l i);clear l i;go_wp2;go_ret;exact⟨_,f.G,Z,Jd,Jw,b.ch,.inl Z⟩
    have HE:=H he;have c5:(off==c.expected)=false:=Ln.2 he;clear he;replace d:=H (d.trans (by rw[L7 (fun h=>HE.o h.2)]));by_cases z:q=false
    ·have E:=H z;replace d:=H (d.trans (by rw[L9 ⟨u.o,E.o⟩]));subst z;go_wp2;go_ret;exact⟨_,f.G,Z,Jd,Jw,b.ch,.inl Z⟩
    have t:q=true:=by simpa using z
    have E:=H t;clear z;replace d:=H (d.trans (by rw[L7 (fun h=>by have:=E.symm.trans h.2;cases this),L7 (fun h=>by have:=E.symm.trans h;cases this),L9 (.inl u.o)]));subst t;go_wp2_with fail;refine(cK f c _ b.cn).mono ?_;rintro e w9⟨rfl,l,i⟩;replace b:=H (b.call l i);clear l i;go_wp2_with fail;refine(au f c.i2 now _ b.cn y.i2 N.o).mono ?_;rintro e F⟨v,rfl,r,l,i⟩;have I:=H (show aL F w.heap.size v _ from aL.base r b.ch.size);have J:=H l;have K:=H (b.ch.trans i);clear r l i;go_wp2;go_ret;exact⟨_,f.G,Z,Pc,Pt,K.o,.inl Z⟩
   have u:=H (show s.te=false by simpa using hr);clear hr;replace d:=H (d.trans (by rw[L7 (fun h=>by have:=u.symm.trans h.1;cases this),L7 (fun h=>by have:=u.symm.trans h.1;cases this)]));have c6:=(b.row.cell 6 s.te Z).trans (by rw[u.o]);by_cases z:q=false
   ·have E:=H z;replace d:=H (d.trans (by rw[L9 E.o]));subst z
    go_upto_region 15 with fail
    clear c6;have P:=b.row.cell 0 _ Z;have S:=b.row.cell 1 _ Z;have T:=b.row.cell 2 _ Z;have U:=b.row.cell 3 _ Z;have V:=b.row.cell 4 _ Z;have X:=b.row.cell 5 _ Z;have q6:=b.row.cell 6 _ Z;have q7:=b.row.cell 7 _ Z;have q8:=b.row.cell 8 _ Z;have q9:=b.row.cell 9 _ Z;have a0:=b.row.cell 10 _ Z;have a1:=b.row.cell 11 _ Z;have a2:=b.row.cell 12 _ Z;go_wp2_with fail;refine(sO f c now s a cap _ b.cn y.o N.o L.o b.bl H0.o).mono ?_;rintro e F⟨v,rfl,r,l,i⟩;have I:=H (show aL F w.heap.size v _ from aL.base r b.ch.size);have J:=H l;have K:=H (b.ch.trans i);clear r l i;go_wp2;go_ret;exact⟨_,f.G,Z,Pc,Pt,K.o,.inl Z⟩
   have t:q=true:=by simpa using z
   have E:=H t;clear z;replace d:=H (d.trans (by rw[L7 (fun h=>by have:=E.symm.trans h;cases this)]));subst t;by_cases hy:s.syn=true
   focus
    have HY:=H hy;clear hy;have c4:=(b.row.cell 4 s.syn Z).trans (by rw[HY.o]);replace d:=H (d.trans (by rw[L9 (.inr HY.o)]));go_wp2_with fail;refine(cK f c _ b.cn).mono ?_;rintro e w9⟨rfl,l,i⟩;replace b:=H (b.call l i);clear l i;go_wp2_with fail;refine(au f c.i2 now _ b.cn y.i2 N.o).mono ?_
   rotate_left 1
   focus
    have HY:=H (show s.syn=false by simpa using hy);clear hy;have c4:=(b.row.cell 4 s.syn Z).trans (by rw[HY.o]);replace d:=H (d.trans (by rw[L7 (by rintro (h | h);(have:=u.symm.trans h;cases this);(have:=HY.symm.trans h;cases this))]));by_cases hh:s.has=false
    ·have HH:=H hh;clear hh;have c7:=(b.row.cell 7 s.has Z).trans (by rw[HH.o]);replace d:=H (d.trans (by rw[L9 HH.o]));go_wp2;go_ret;exact⟨_,f.G,Z,Jd,Jw,b.ch,.inl Z⟩
    have HH:=H (show s.has=true by simpa using hh);clear hh;have c7:=(b.row.cell 7 s.has Z).trans (by rw[HH.o]);replace d:=H (d.trans (by rw[L7 (fun h=>by have:=HH.symm.trans h;cases this)]))
    go_upto_region 21 with fail
    clear c4 c6 c7;have P:=b.row.cell 0 _ Z;have S:=b.row.cell 1 _ Z;have T:=b.row.cell 2 _ Z;have U:=b.row.cell 3 _ Z;have V:=b.row.cell 4 _ Z;have X:=b.row.cell 5 _ Z;have q6:=b.row.cell 6 _ Z;have q7:=b.row.cell 7 _ Z;have q8:=b.row.cell 8 _ Z;have q9:=b.row.cell 9 _ Z;have a0:=b.row.cell 10 _ Z;have a1:=b.row.cell 11 _ Z;have a2:=b.row.cell 12 _ Z;go_wp2_with fail;refine(pS f c now s off a cap _ b.cn y.o N.o L.o b.bl be.o).mono ?_
   all_goals
    rintro e F⟨v,rfl,r,l,i⟩;have I:=H (show aL F w.heap.size v _ from aL.base r b.ch.size);have J:=H l;have K:=H (b.ch.trans i);clear r l i;go_wp2;go_ret;exact⟨_,f.G,Z,Pc,Pt,K.o,.inl Z⟩
  have HQ:=H hq;clear hq;replace d:=H (d.trans (by rw[L9 (.inr HQ.o)]));refine az (fun W:World=>W.cell? w.heap.size=some (s.fp:Y)/\W.cell? ⟨w.heap.size,1,none⟩=some (s.tp:Y)/\W.cell? ⟨f.C,23,none⟩=some (c.cf.tp:Y)/\W.cell? ⟨f.C,22,none⟩=some (c.cf.fp:Y)) (⟨b.row.cell 0 s.fp Z,b.row.cell 1 s.tp Z,b.cn.cell 23 c.cf.tp Z,b.cn.cell 22 c.cf.fp Z⟩) fun k=>?_;replace b:=H b.drew;generalize m:World.drew _=Hn at b k|-;clear m;refine aA 0 1 2 3 ?_;refine aM 4 5 ?_;refine aQ 6 ?_;refine aQ 7 (v:=.bool false) ?_ (hy:=PE);refine aA 8 9 10 11 ?_;refine aA 12 13 14 15 ?_;refine aQ 16 (v:=.bool true) ?_ (hy:=KP);refine aQ 17 ?_;refine ay ?_ _;clear k;go_wp2;go_ret;exact⟨_,f.G,Z,Jd,Jw,b.ch,.inl Z⟩
 have M:=H hp;clear hp;replace d:=H (d.trans (by rw[L9 (.inl M.o)]));refine az (fun W:World=>W.cell? w.heap.size=some (s.fp:Y)/\W.cell? ⟨w.heap.size,1,none⟩=some (s.tp:Y)/\W.cell? ⟨f.C,23,none⟩=some (c.cf.tp:Y)/\W.cell? ⟨f.C,22,none⟩=some (c.cf.fp:Y)) (⟨b.row.cell 0 s.fp Z,b.row.cell 1 s.tp Z,b.cn.cell 23 c.cf.tp Z,b.cn.cell 22 c.cf.fp Z⟩) fun k=>?_;replace b:=H b.drew;generalize m:World.drew _=Hn at b k|-;clear m;refine aA 0 1 2 3 ?_;refine aM 4 5 ?_;refine aQ 6 ?_;refine aQ 7 (v:=.bool true) ?_ (hy:=PE);refine aQ 8 ?_;refine aU 9 ?_;refine aU 10 ?_;refine aU 11 ?_;refine aU 12 ?_;refine aU 13 ?_;refine aU 14 ?_;refine aU 15 ?_;refine aU 16 ?_;refine aQ 17 ?_;refine ay ?_ _;clear k;go_wp2;go_ret;exact⟨_,f.G,Z,Jd,Jw,b.ch,.inl Z⟩
theorem AN (f:Fp) (c:Cn) (now:Int) (s:Sg) (a:Option Addr) (cap:Nat) (w:World) (h:kn f c w) (hs:s.okB=false) (d:bE w a s.bl) :
  Calls Tryz.prog 19 #[f.C,now,dY s a cap] w (mp f w [] c):=by
 have i:=h.gl.top;have j:=h.lt;have b:=H (Sw.start (x:=(s,a,cap)) h d);clear h d;unfold dY
 go_enter Tryz.func19,Tryz.ntmps19
 go_wp2_with fail;change Calls _ _ _ (w.alloc (.cells (aX (s,a,cap)).toArray 53)) _;generalize w.alloc (.cells (aX (s,a,cap)).toArray 53)=w1 at b|-;refine(bh f c _ b.cn).mono ?_;rintro e k⟨rfl,d⟩;replace b:=H (b.qn d);clear d;by_cases h0:c.st=0
 ·have g:decide (c.st=0)=true:=Le h0;clear h0;go_wp2;go_ret;exact⟨_,f.G,Z,aL.nil _ _,b.cn,b.ch,.inl Z⟩
 have g:decide (c.st=0)=false:=Lh h0;clear h0;have l:=b.row.cell 0 _ Z;have m:=b.row.cell 1 _ Z;have n:=b.row.cell 2 _ Z;have o:=b.row.cell 3 _ Z;have p:=b.row.cell 4 _ Z;have q:=b.row.cell 5 _ Z;have r:=b.row.cell 6 _ Z;have t:=b.row.cell 7 _ Z;have u:=b.row.cell 8 _ Z;have y:=b.row.cell 9 _ Z;have z:=b.row.cell 10 _ Z;have A:=b.row.cell 11 _ Z;have B:=b.row.cell 12 _ Z;go_wp2_with fail;refine(iD s a cap _ b.bl).mono ?_;rintro e k⟨rfl,d⟩;replace b:=H (b.qn d);clear d;clear l m n o p q r t u y z A B;go_wp2;go_ret;exact⟨_,f.G,Z,aL.nil _ _,b.cn,b.ch,.inl Z⟩
end
end Go.Proofs.YtcmncipikdpnbaaGreatDoor
