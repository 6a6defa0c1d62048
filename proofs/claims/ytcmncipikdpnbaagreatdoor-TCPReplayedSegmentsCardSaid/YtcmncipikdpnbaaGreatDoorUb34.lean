import Derived.Test.YtcmncipikdpnbaaGreatDoorUb33
namespace Go.Proofs.YtcmncipikdpnbaaGreatDoor
section
set_option maxHeartbeats 8000000
set_option maxRecDepth 100000
open Go.RowKit Go.Shelf
theorem oK (n:Int)(w:World):Calls Tryz.prog 104 #[n] w fun e w'=>e= .returned (decide (1<=n/\n<=65535))/\w=w':=by
 by_cases h1:1<=n
 ·have a:=H (show decide (n<=65535)=decide (1<=n/\n<=65535)from N9.2 O)
  go_enter Tryz.func104,Tryz.ntmps104
  go_wp2
  go_ret;exact⟨bT a.o,Z⟩
 go_enter Tryz.func104,Tryz.ntmps104
 go_wp2
 go_ret;exact⟨bT IM,Z⟩
theorem Cf.Gd {c:Cf}(h1:1<=c.fp/\c.fp<=65535)(h2:1<=c.tp/\c.tp<=65535)(a:0<=c.ki/\c.ki<=4294967295)(d:28<=c.go)(e:c.go<=1000)(f:1<=c.room)(g:c.room<=8192)(h:1<=c.keep)(i:c.keep<=8192):true=c.okB:=by
 unfold Cf.okB;exact(Le ⟨h1,h2,a,⟨d,e⟩,⟨f,g⟩,h,i⟩).symm
theorem Cf.Cr {c:Cf}(h:¬((1<=c.fp/\c.fp<=65535)/\(1<=c.tp/\c.tp<=65535)/\(0<=c.ki/\c.ki<=4294967295)/\(28<=c.go/\c.go<=1000)/\(1<=c.room/\c.room<=8192)/\1<=c.keep/\c.keep<=8192)):false=c.okB:=by
 unfold Cf.okB;exact(Lh h).symm
theorem gP (c:Cf) (w:World) :
  Calls Tryz.prog 60 #[pp c] w fun e w'=>e= .returned c.okB/\Below w.heap.size w w':=by
 obtain⟨V,hV⟩:∃V,V=c.okB:=⟨_,Z⟩;rw[<-hV];have d:=H hV;clear hV;have f:=H ((L5 w.heap.size w).alloc (L6 _) (.cells #[c.fp,c.tp,c.ki,c.go,c.room,c.keep] 41));unfold pp
 go_enter Tryz.func60,Tryz.ntmps60
 go_wp2_with fail;refine(oK c.fp _).mono ?_;rintro e l⟨rfl,rfl⟩;by_cases h1:1<=c.fp/\c.fp<=65535
 ·have d1:decide (1<=c.fp/\c.fp<=65535)=true:=Le h1;go_wp2_with fail;refine(oK c.tp _).mono ?_;rintro e l⟨rfl,rfl⟩;by_cases h2:1<=c.tp/\c.tp<=65535
  ·have d2:decide (1<=c.tp/\c.tp<=65535)=true:=Le h2;go_wp2_with fail;refine(dh c.ki _).mono ?_;rintro e l⟨rfl,rfl⟩;by_cases g:0<=c.ki/\c.ki<=4294967295
   ·have d3:decide (0<=c.ki/\c.ki<=4294967295)=true:=Le g;by_cases t:28<=c.go
    ·have d4:=Lh (show ¬c.go<28 by omega);by_cases n:c.go<=1000
     ·have d5:=Lh (show ¬1000<c.go by omega);by_cases h:1<=c.room
      ·have p:=Le h;by_cases i:c.room<=8192
       ·have q:=Le i;by_cases j:1<=c.keep
        ·have r:=Le j;by_cases k:c.keep<=8192
         ·have s:=Le k;have a:=H (show true=V from(Cf.Gd h1 h2 g O n h i j k).trans d.symm);go_wp2;go_ret;exact⟨bT a.o,f.o⟩
         have s:=Lh k;have a:=H (show false=V from(Cf.Cr O).trans d.symm);go_wp2;go_ret;exact⟨bT a.o,f.o⟩
        have r:=Lh j;have a:=H (show false=V from(Cf.Cr O).trans d.symm);go_wp2;go_ret;exact⟨bT a.o,f.o⟩
       have q:=Lh i;have a:=H (show false=V from(Cf.Cr O).trans d.symm);go_wp2;go_ret;exact⟨bT a.o,f.o⟩
      have p:=Lh h;have a:=H (show false=V from(Cf.Cr O).trans d.symm);go_wp2;go_ret;exact⟨bT a.o,f.o⟩
     have d5:=Le (show 1000<c.go by omega);have a:=H (show false=V from(Cf.Cr O).trans d.symm);go_wp2;go_ret;exact⟨bT a.o,f.o⟩
    have d4:=Le (show c.go<28 by omega);have a:=H (show false=V from(Cf.Cr O).trans d.symm);go_wp2;go_ret;exact⟨bT a.o,f.o⟩
   have d3:decide (0<=c.ki/\c.ki<=4294967295)=false:=Lh g;have a:=H (show false=V from(Cf.Cr O).trans d.symm);go_wp2;go_ret;exact⟨bT a.o,f.o⟩
  have d2:decide (1<=c.tp/\c.tp<=65535)=false:=Lh h2;have a:=H (show false=V from(Cf.Cr O).trans d.symm);go_wp2;go_ret;exact⟨bT a.o,f.o⟩
 have d1:decide (1<=c.fp/\c.fp<=65535)=false:=Lh h1;have a:=H (show false=V from(Cf.Cr O).trans d.symm);go_wp2;go_ret;exact⟨bT a.o,f.o⟩
def ku (C:Nat)(vs:Array Value)(W:World):Prop:=W.heap[C]? =some (.cells vs 85 (0,0))
theorem ku.cell {C:Nat}{vs:Array Value}{W:World}(h:ku C vs W)(i:Nat)(v:Value)(a:vs[i]? =some v):W.cell? ⟨C,i,none⟩=some v:=by rw[Lq _ _ _ _ _ _ h];exact a
theorem ku.free {C:Nat}{vs:Array Value}{W:World}(h:ku C vs W)(i:Nat):W.frozen? ⟨C,i,none⟩=false:=LW _ _ _ _ _ h
theorem ku.set {C:Nat}{vs:Array Value}{W:World}(h:ku C vs W)(i:Nat)(v:Value):ku C (vs.setIfInBounds i v) (W.setCell ⟨C,i,none⟩ v):=LK _ _ _ _ _ _ h
theorem ku.below {C:Nat}{vs:Array Value}{W W':World}(h:ku C vs W)(a:Below W.heap.size W W'):ku C vs W':=(a.block C (L8.1 h).1).trans h
def Bu (w:World)(d:Cn)(e:Ending)(w':World):Prop:=∃f:Fp,e= .returned f.C/\kn f d w'/\Below w.heap.size w w'/\f.Hi w.heap.size
def lP (c:Cf):Array Value:= #[.pointer none,.pointer none,.pointer none,.string ⟨#[]⟩,.int .i64 0,.int .i64 0,.int .i64 0,.int .i64 0,.bool false,.bool false,.int .i64 0,.pointer none,.int .i64 0,.int .i64 0,.int .i64 0,.bool false,.int .i64 0,.bool false,.int .i64 0,.bool false,.int .i64 0,.int .i64 0,.int .i64 c.fp,.int .i64 c.tp,.int .i64 c.ki,.int .i64 c.go,.int .i64 c.room,.int .i64 c.keep,.int .i64 0,.int .i64 0,.bool false,.int .i64 0,.int .i64 0,.int .i64 0,.bool false,.int .i64 0,.int .i64 0]
theorem sX (now:Int) (c:Cf) (w:World) (h:c.okB=false) :
  Calls Tryz.prog 29 #[now,pp c] w fun e w'=>e= .returned (.pointer none)/\Below w.heap.size w w':=by
 have a:=(L5 w.heap.size w).alloc (L6 _) (.cells #[c.fp,c.tp,c.ki,c.go,c.room,c.keep] 41);have d:=H (gP c (w.alloc (.cells #[c.fp,c.tp,c.ki,c.go,c.room,c.keep] 41)));rw[h]at d;have f:=H a;clear a;unfold pp at d|-
 go_enter Tryz.func29,Tryz.ntmps29
 go_wp2_with fail;refine d.mono ?_;rintro e i⟨rfl,g⟩;replace f:=H (f.trans (g.mono Ko));clear g;go_wp2;go_ret;exact⟨Z,f.o⟩
structure GG (w:World)(c:Cf)(C G X R:Nat)(b:Bx)(m:Cg)(vs:Array Value)(W:World):Prop where
 row:ku C vs W
 cg:eU G m W
 bx:ao X R 0 b W
 gl:Gl W
 qn:Below w.heap.size w W
 Hf:W.heap[w.heap.size]? =some (.cells #[c.fp,c.tp,c.ki,c.go,c.room,c.keep] 41)
 lo:w.heap.size<=C/\dy<=w.heap.size
namespace GG
variable {w : World} {c : Cf} {C G X R : Nat} {b : Bx} {m : Cg} {vs vs' : Array Value} {W W' : World}
theorem Cx (h:GG w c C G X R b m vs W):dW W C 85:=⟨_,_,h.row⟩
theorem below (h:GG w c C G X R b m vs W)(a:Below W.heap.size W W'):GG w c C G X R b m vs W' :=
 ⟨h.row.below a,h.cg.keep (a.block _ h.cg.DC.lt),h.bx.keep (a.block _ h.bx.DC.1.lt) (a.block _ h.bx.DC.2.lt) a.size (.below a),h.gl.below (a.mono h.gl.top),h.qn.trans (a.mono h.qn.size),(a.block _ (L8.1 h.Hf).1).trans h.Hf,h.lo⟩
theorem Dj (h:GG w c C G X R b m vs W)(a:nF C W W')(i:ku C vs' W'):GG w c C G X R b m vs' W':=by
 have d:=h.Cx;have g:dW W w.heap.size 41:=⟨_,_,h.Hf⟩;have f:=h.lo;have e:Below w.heap.size W W':=⟨a.os,a.tape,a.output,a.size,fun k j=>a.block k (Ld j h.qn.size) O⟩;exact⟨i,h.cg.keep (a.block _ h.cg.DC.lt (h.cg.DC.ne d D)),h.bx.keep (a.block _ h.bx.DC.1.lt (h.bx.DC.1.ne d D)) (a.block _ h.bx.DC.2.lt (h.bx.DC.2.ne d D)) a.size (.Dj a d D),h.gl.below (e.mono f.2),h.qn.trans e,(a.block _ g.lt (g.ne d D)).trans h.Hf,h.lo⟩
theorem cell (h:GG w c C G X R b m vs W)(i:Nat)(v:Value)(a:(#[c.fp,c.tp,c.ki,c.go,c.room,c.keep]:Array Value)[i]? =some v):W.cell? ⟨w.heap.size,i,none⟩=some v:=by rw[Lq _ _ _ _ _ _ h.Hf];exact a
end GG
theorem mv (now:Int) (c:Cf) (w:World) (hc:c.okB=true) (gl:Gl w) :
  Calls Tryz.prog 29 #[now,pp c] w (Bu w (dZ now c)):=by
 have A:=hc;unfold Cf.okB at A;have A:=LN A;obtain⟨-,-,-,hm,hr,-⟩:=A;have p:=gl.top;obtain⟨ea,eb⟩:=gl.err;have HG:=H gl;have a0:=(L5 w.heap.size w).alloc (L6 _) (.cells #[c.fp,c.tp,c.ki,c.go,c.room,c.keep] 41);have HV:=H (gP c (w.alloc (.cells #[c.fp,c.tp,c.ki,c.go,c.room,c.keep] 41)));rw[hc]at HV;have n:=H a0;have e7:w.heap.size<(w.alloc (.cells #[c.fp,c.tp,c.ki,c.go,c.room,c.keep] 41)).heap.size:=Ko
 have F:(w.alloc (.cells #[c.fp,c.tp,c.ki,c.go,c.room,c.keep] 41)).cell? w.heap.size=some (c.fp:Y):=Ji
 have I:(w.alloc (.cells #[c.fp,c.tp,c.ki,c.go,c.room,c.keep] 41)).cell? ⟨w.heap.size,1,none⟩=some (c.tp:Y):=Ji
 have J:(w.alloc (.cells #[c.fp,c.tp,c.ki,c.go,c.room,c.keep] 41)).cell? ⟨w.heap.size,2,none⟩=some (c.ki:Y):=Ji
 have K:(w.alloc (.cells #[c.fp,c.tp,c.ki,c.go,c.room,c.keep] 41)).cell? ⟨w.heap.size,3,none⟩=some (c.go:Y):=Ji
 have u:(w.alloc (.cells #[c.fp,c.tp,c.ki,c.go,c.room,c.keep] 41)).cell? ⟨w.heap.size,4,none⟩=some (c.room:Y):=Ji
 have L:(w.alloc (.cells #[c.fp,c.tp,c.ki,c.go,c.room,c.keep] 41)).cell? ⟨w.heap.size,5,none⟩=some (c.keep:Y):=Ji
 have i:=H (show(w.alloc (.cells #[c.fp,c.tp,c.ki,c.go,c.room,c.keep] 41)).heap[w.heap.size]? =some (.cells #[c.fp,c.tp,c.ki,c.go,c.room,c.keep] 41)from Ls _ _);clear gl a0;unfold pp at HV|-;obtain⟨R,hR⟩:∃R,R=dZ now c:=⟨_,Z⟩;rw[<-hR];have HR:=H hR;clear hR
 go_enter Tryz.func29,Tryz.ntmps29
 go_wp2_with fail;generalize w.alloc (.cells #[c.fp,c.tp,c.ki,c.go,c.room,c.keep] 41)=w1 at *;refine HV.mono ?_;rintro e M⟨rfl,g⟩;clear F I J K u L;replace i:=H ((g.block _ (L8.1 i.o).1).trans i.o);replace n:=H (n.trans (g.mono n.size));clear g;have F:M.cell? w.heap.size=some (c.fp:Y):=P3
 have I:M.cell? ⟨w.heap.size,1,none⟩=some (c.tp:Y):=P3
 have J:M.cell? ⟨w.heap.size,2,none⟩=some (c.ki:Y):=P3
 have K:M.cell? ⟨w.heap.size,3,none⟩=some (c.go:Y):=P3
 have u:M.cell? ⟨w.heap.size,4,none⟩=some (c.room:Y):=P3
 have L:M.cell? ⟨w.heap.size,5,none⟩=some (c.keep:Y):=P3
 have ec:(c.room.toNat:Int)=c.room:=O
 go_wp2_with fail;have eS:=H (zn c.room.toNat O O M);rw[ec]at eS;refine eS.mono ?_;rintro e x⟨U,RX,rfl,hx,g,a1,a2⟩;clear F I J K u L;have y:=n.size;replace i:=H ((g.block _ (L8.1 i.o).1).trans i.o);replace n:=H (n.trans (g.mono n.size));have t:=H (hx 0);clear g hx;have F:x.cell? w.heap.size=some (c.fp:Y):=P3
 have I:x.cell? ⟨w.heap.size,1,none⟩=some (c.tp:Y):=P3
 have J:x.cell? ⟨w.heap.size,2,none⟩=some (c.ki:Y):=P3
 have K:x.cell? ⟨w.heap.size,3,none⟩=some (c.go:Y):=P3
 have u:x.cell? ⟨w.heap.size,4,none⟩=some (c.room:Y):=P3
 have L:x.cell? ⟨w.heap.size,5,none⟩=some (c.keep:Y):=P3
 have bk:=eb.below n.o (by have h9:0<dy:=D;omega);go_wp2_with fail;have e8:=n.size;refine(qR c.go ea x bk hm.1 O).mono ?_;rintro e r⟨rfl,hg,g⟩;clear F I J K u L;have bn:=H hg;replace t:=H (t.keep (g.block _ t.DC.1.lt) (g.block _ t.DC.2.lt) g.size (.below g));replace i:=H ((g.block _ (L8.1 i.o).1).trans i.o);replace n:=H (n.trans (g.mono n.size));clear g hg bk;have F:r.cell? w.heap.size=some (c.fp:Y):=P3
 have I:r.cell? ⟨w.heap.size,1,none⟩=some (c.tp:Y):=P3
 have J:r.cell? ⟨w.heap.size,2,none⟩=some (c.ki:Y):=P3
 have K:r.cell? ⟨w.heap.size,3,none⟩=some (c.go:Y):=P3
 have u:r.cell? ⟨w.heap.size,4,none⟩=some (c.room:Y):=P3
 have L:r.cell? ⟨w.heap.size,5,none⟩=some (c.keep:Y):=P3
 have e0:=H (show ku r.heap.size (lP c) (r.alloc (.cells (lP c) 85))from Ls _ _);have g:=(L5 r.heap.size r).alloc (L6 _) (.cells (lP c) 85);have ed:=n.size;replace bn:=H (bn.keep (g.block _ bn.DC.lt));replace t:=H (t.keep (g.block _ t.DC.1.lt) (g.block _ t.DC.2.lt) g.size (.below g));replace i:=H ((g.block _ (L8.1 i.o).1).trans i.o);replace n:=H (n.trans (g.mono n.size));clear g;have d:=H (show GG w c r.heap.size x.heap.size U RX (nM c.room.toNat) (Ay c.go) (lP c) (r.alloc (.cells (lP c) 85))from⟨e0.o,bn.o,t.o,HG.below (n.mono p),n.o,i.o,ed,p⟩);clear e0 bn t i n;go_wp2_with fail;clear F I J K u L;change Code.wp _ _ _ _ (r.alloc (.cells (lP c) 85));generalize r.alloc (.cells (lP c) 85)=w5 at d|-;generalize hC:r.heap.size=C at d|-;generalize hG:x.heap.size=G at d|-;have e1:w.heap.size<=G:=O
 clear hC hG;refine az (fun W:World=>W.cell? ⟨w.heap.size,3,none⟩=some (c.go:Y)) (d.cell 3 c.go Z) fun B=>?_;replace d:=H (d.below (L5 _ _).drew);generalize a3:World.drew _=an at d B|-;clear a3;refine aA 0 3 4 5 ?_;refine aY 1 fun Kq q=> ?_;go_simp;refine(uf _).mono ?_;rintro e N⟨rfl,rfl⟩;have cV:=bL.new (w:=an) (lb:=an.heap.size+1) Z;have j:=H (cV.2 _ (L5 _ _) (Nat.lt_succ_self _) cV.1);clear cV;have cX:w.heap.size<=an.heap.size:=d.qn.size;replace d:=H (d.below ((L5 an.heap.size an).alloc (L6 _) (.cells (eG zd none 0 none 0) 135)));generalize an.alloc (.cells (eG zd none 0 none 0) 135)=N at d j|-;generalize an.heap.size=S at j cX|-;go_simp;refine q.out _ _ (d.cell 3 c.go Z) ?_;clear q Kq B;refine fun B=>aW ?_;refine aY 2 fun Kq q=> ?_;go_simp;refine(zo _).mono ?_;rintro e V⟨rfl,rfl⟩;have l:=H (fO.new N);have cY:w.heap.size<=N.heap.size:=d.qn.size;have bo:=(L5 N.heap.size N).alloc (L6 _) (.cells (gn po) 142);replace d:=H (d.below bo);replace j:=H (j.keep (bo.block _ j.DC.lt) bo.size (.below bo));clear bo;generalize N.alloc (.cells (gn po) 142)=V at d j l|-;generalize N.heap.size=T at l cY|-;have c0:=d.row.cell 0 (.pointer none) Z;have c1:=d.row.cell 1 (.pointer none) Z;have c2:=d.row.cell 2 (.pointer none) Z;have c3:=d.row.cell 3 (.string ⟨#[]⟩) Z;have c4:=d.row.cell 4 (0:Int) Z;have c5:=d.row.cell 5 (0:Int) Z;have c6:=d.row.cell 6 (0:Int) Z;have c7:=d.row.cell 7 (0:Int) Z;have c8:=d.row.cell 8 false Z;have c9:=d.row.cell 9 false Z;have a4:=d.row.cell 10 (0:Int) Z;have f0:=d.row.free 0;have f1:=d.row.free 1;have f2:=d.row.free 2;have f3:=d.row.free 3;have f4:=d.row.free 4;have f5:=d.row.free 5;have f6:=d.row.free 6;have f7:=d.row.free 7;have f8:=d.row.free 8;have f9:=d.row.free 9;have a5:=d.row.free 10;go_simp;refine q.out _ _ (d.cell 3 c.go Z) ?_;clear q Kq B;refine fun B=>aW ?_;refine aM 6 7 ?_;refine aQ 8 ?_;have h:=d.Cx;have ba:dW V w.heap.size 41:=⟨_,_,d.Hf⟩;have bu:=ba.lt;have bv:=ba.ne h D;refine aY 9 fun Kq q=> ?_;go_simp;refine q.out _ _ ((Li (a:=⟨w.heap.size,3,none⟩) (((((((((((((nF.refl _ _).setCell 0 _).setCell 1 _).setCell 2 _).setCell 3 _).setCell 4 _).setCell 5 _).setCell 6 _).setCell 7 _).setCell 8 _).setCell 9 _).setCell 10 _).block w.heap.size (bu) bv)).trans (d.cell 3 c.go Z)) ?_;clear q Kq B;refine fun B=>aW ?_;refine ay ?_ _;clear B h ba bu bv;clear c0 f0 c1 f1 c2 f2 c3 f3 c4 f4 c5 f5 c6 f6 c7 f7 c8 f8 c9 f9 a4 a5;have f:nF C V (((((((((((V.setCell C S).setCell ⟨C,1,none⟩ T).setCell ⟨C,2,none⟩ G).setCell ⟨C,3,none⟩ (.string ⟨#[]⟩)).setCell ⟨C,4,none⟩ (1:Int)).setCell ⟨C,5,none⟩ (0:Int)).setCell ⟨C,6,none⟩ (0:Int)).setCell ⟨C,7,none⟩ c.go).setCell ⟨C,8,none⟩ false).setCell ⟨C,9,none⟩ false).setCell ⟨C,10,none⟩ (0:Int)):=((((((((((((nF.refl C V).setCell 0 S).setCell 1 T).setCell 2 G).setCell 3 (.string ⟨#[]⟩)).setCell 4 (1:Int)).setCell 5 (0:Int)).setCell 6 (0:Int)).setCell 7 c.go).setCell 8 false).setCell 9 false).setCell 10 (0:Int));have s:=(((((((((((d.row.set 0 S).set 1 T).set 2 G).set 3 (.string ⟨#[]⟩)).set 4 (1:Int)).set 5 (0:Int)).set 6 (0:Int)).set 7 c.go).set 8 false).set 9 false).set 10 (0:Int));simp only[lP,Lf,Lk,Lm]at s;have h:=d.Cx;replace j:=H (j.keep (f.block _ j.DC.lt (j.DC.ne h D)) f.size (.Dj f h D));replace l:=H (l.keep (f.block _ l.DC.lt (l.DC.ne h D)));replace d:=H (d.Dj f s);clear f s h;generalize (((((((((((V.setCell C S).setCell ⟨C,1,none⟩ T).setCell ⟨C,2,none⟩ G).setCell ⟨C,3,none⟩ (.string ⟨#[]⟩)).setCell ⟨C,4,none⟩ (1:Int)).setCell ⟨C,5,none⟩ (0:Int)).setCell ⟨C,6,none⟩ (0:Int)).setCell ⟨C,7,none⟩ c.go).setCell ⟨C,8,none⟩ false).setCell ⟨C,9,none⟩ false).setCell ⟨C,10,none⟩ (0:Int))=w8 at d j l|-;have u:=d.cell 4 c.room Z;have a9:=d.row.cell 11 (.pointer none) Z;have b6:=d.row.cell 12 (0:Int) Z;have b7:=d.row.cell 13 (0:Int) Z;have b8:=d.row.cell 14 (0:Int) Z;have b9:=d.row.cell 15 false Z;have d0:=d.row.cell 16 (0:Int) Z;have d1:=d.row.cell 17 false Z;have d2:=d.row.cell 18 (0:Int) Z;have d3:=d.row.cell 19 false Z;have d4:=d.row.cell 20 (0:Int) Z;have d5:=d.row.cell 21 (0:Int) Z;have d6:=d.row.free 11;have eg:=d.row.free 12;have ei:=d.row.free 13;have d7:=d.row.free 14;have d8:=d.row.free 15;have d9:=d.row.free 16;have e3:=d.row.free 17;have el:=d.row.free 18;have e4:=d.row.free 19;have em:=d.row.free 20;have en:=d.row.free 21;have c1:=d.row.cell 1 T Z;go_wp2_with fail;clear u c1;clear a9 d6 b6 eg b7 ei b8 d7 b9 d8 d0 d9 d1 e3 d2 el d3 e4 d4 em d5 en;have f:nF C w8 (((((((((((w8.setCell ⟨C,11,none⟩ U).setCell ⟨C,12,none⟩ (0:Int)).setCell ⟨C,13,none⟩ c.room).setCell ⟨C,14,none⟩ c.room).setCell ⟨C,15,none⟩ false).setCell ⟨C,16,none⟩ (0:Int)).setCell ⟨C,17,none⟩ false).setCell ⟨C,18,none⟩ (0:Int)).setCell ⟨C,19,none⟩ false).setCell ⟨C,20,none⟩ (0:Int)).setCell ⟨C,21,none⟩ (0:Int)):=((((((((((((nF.refl C w8).setCell 11 U).setCell 12 (0:Int)).setCell 13 c.room).setCell 14 c.room).setCell 15 false).setCell 16 (0:Int)).setCell 17 false).setCell 18 (0:Int)).setCell 19 false).setCell 20 (0:Int)).setCell 21 (0:Int));have s:=(((((((((((d.row.set 11 U).set 12 (0:Int)).set 13 c.room).set 14 c.room).set 15 false).set 16 (0:Int)).set 17 false).set 18 (0:Int)).set 19 false).set 20 (0:Int)).set 21 (0:Int));simp only[Lf,Lk,Lm]at s;have h:=d.Cx;replace j:=H (j.keep (f.block _ j.DC.lt (j.DC.ne h D)) f.size (.Dj f h D));replace l:=H (l.keep (f.block _ l.DC.lt (l.DC.ne h D)));replace d:=H (d.Dj f s);clear f s h;generalize (((((((((((w8.setCell ⟨C,11,none⟩ U).setCell ⟨C,12,none⟩ (0:Int)).setCell ⟨C,13,none⟩ c.room).setCell ⟨C,14,none⟩ c.room).setCell ⟨C,15,none⟩ false).setCell ⟨C,16,none⟩ (0:Int)).setCell ⟨C,17,none⟩ false).setCell ⟨C,18,none⟩ (0:Int)).setCell ⟨C,19,none⟩ false).setCell ⟨C,20,none⟩ (0:Int)).setCell ⟨C,21,none⟩ (0:Int))=w9 at d j l|-;refine(ia T po wV _ l.o).mono ?_;rintro e e9⟨rfl,g⟩;replace d:=H (d.below g);replace j:=H (j.keep (g.block _ j.DC.lt) g.size (.below g));replace l:=H (l.keep (g.block _ l.DC.lt));clear g;go_wp2_with fail;refine(dP _ _ _).mono ?_;rintro e z⟨rfl,g⟩;replace d:=H (d.below g);replace j:=H (j.keep (g.block _ j.DC.lt) g.size (.below g));replace l:=H (l.keep (g.block _ l.DC.lt));clear g;have eo:=d.row.cell 30 false Z;have er:=d.row.cell 31 (0:Int) Z;have es:=d.row.cell 32 (0:Int) Z;have et:=d.row.free 30;have eu:=d.row.free 31;have e5:=d.row.free 32;have c0:=d.row.cell 0 S Z;go_wp2_with fail;clear c0;clear eo et er eu es e5;have f:nF C z (((z.setCell ⟨C,30,none⟩ true).setCell ⟨C,31,none⟩ now).setCell ⟨C,32,none⟩ po.value):=((((nF.refl C z).setCell 30 true).setCell 31 now).setCell 32 po.value);have s:=(((d.row.set 30 true).set 31 now).set 32 po.value);simp only[Lf,Lk,Lm]at s;have h:=d.Cx;replace j:=H (j.keep (f.block _ j.DC.lt (j.DC.ne h D)) f.size (.Dj f h D));replace l:=H (l.keep (f.block _ l.DC.lt (l.DC.ne h D)));replace d:=H (d.Dj f s);clear f s h;generalize (((z.setCell ⟨C,30,none⟩ true).setCell ⟨C,31,none⟩ now).setCell ⟨C,32,none⟩ po.value)=IE at d j l|-;have e2:=d.lo.1;have E:=H (show kn ⟨C,S,T,G,U,RX⟩ { dZ now c with sc:=zd,tm:=po } IE from⟨d.row,j.o,l.o,d.cg,d.bx,d.gl,⟨La p e2,La p cX,La p cY,La p e1,La p (La y a1),La p (La y a2)⟩⟩);have P:=H d.qn;clear d j l;refine(gh S (S+1) zd 1 _ E.sc).mono ?_;rintro e e6⟨rfl,hs,f⟩;replace P:=H (P.trans ⟨f.os,f.tape,f.output,f.size,fun k A=>f.block k (Ld A P.size) O⟩);replace E:=H (E.G3 hs f);clear hs f;have c1:e6.cell? ⟨C,1,none⟩=some (T:Y):=E.cell 1 _ Z;go_wp2_with fail;clear c1;refine(mJ T po now 1 _ E.tm).mono ?_;rintro e g0⟨rfl,ht,f⟩;replace P:=H (P.trans ⟨f.os,f.tape,f.output,f.size,fun k A=>f.block k (Ld A P.size) O⟩);replace E:=H (E.GM ht f);clear ht f;go_wp2;go_ret;exact⟨_,Z,by rw[HR.o];exact E.o,P.o,⟨e2,cX,cY,e1,La y a1,La y a2⟩⟩
end
section
set_option maxHeartbeats 8000000
set_option maxRecDepth 100000
open Go.RowKit Go.Shelf
def yi (w:World)(L:List Sg)(d:Cn)(e:Ending)(w':World):Prop :=
 ∃(f:Fp) (v:Value),e= .returned (.tuple #[f.C,v,(0:Int)])/\aL w' w.heap.size v L/\kn f d w'/\Below w.heap.size w w'/\f.Hi w.heap.size
def As (w:World)(e:Ending)(w':World):Prop:=e= .returned (.tuple #[.pointer none,.slice none 0 0,(180:Int)])/\Below w.heap.size w w'
theorem ot.hi {f:Fp}{N:Nat}{w w':World}(h:ot f w w')(hs:N<=w.heap.size)(k:f.Hi N):Below N w w':=h.below hs k.C k.S k.T k.G k.X k.R
theorem vh (now:Int) (c:Cf) (w:World) (g:c.okB=true) (t:Gl w) (z:aI now) :
  Calls Tryz.prog 14 #[now,pp c] w (yi w (fz now c).2 (fz now c).1):=by
 have L:=H z;have M:=t.top;have A:=H (mv now c (w.alloc (.cells #[c.fp,c.tp,c.ki,c.go,c.room,c.keep] 41)) g (t.below ((L5 dy w).alloc t.top _)));have a:=H ((L5 w.heap.size w).alloc (L6 _) (.cells #[c.fp,c.tp,c.ki,c.go,c.room,c.keep] 41));have B:=H (gE z g);have j:(w.alloc (.cells #[c.fp,c.tp,c.ki,c.go,c.room,c.keep] 41)).heap[w.heap.size]? =some (.cells #[c.fp,c.tp,c.ki,c.go,c.room,c.keep] 41):=Ls _ _;have q:w.heap.size<(w.alloc (.cells #[c.fp,c.tp,c.ki,c.go,c.room,c.keep] 41)).heap.size:=Ko
 have N:(w.alloc (.cells #[c.fp,c.tp,c.ki,c.go,c.room,c.keep] 41)).cell? w.heap.size=some (c.fp:Y):=Pf
 have P:(w.alloc (.cells #[c.fp,c.tp,c.ki,c.go,c.room,c.keep] 41)).cell? ⟨w.heap.size,1,none⟩=some (c.tp:Y):=Pf
 have U:(w.alloc (.cells #[c.fp,c.tp,c.ki,c.go,c.room,c.keep] 41)).cell? ⟨w.heap.size,2,none⟩=some (c.ki:Y):=Pf
 have V:(w.alloc (.cells #[c.fp,c.tp,c.ki,c.go,c.room,c.keep] 41)).cell? ⟨w.heap.size,3,none⟩=some (c.go:Y):=Pf
 have b4:(w.alloc (.cells #[c.fp,c.tp,c.ki,c.go,c.room,c.keep] 41)).cell? ⟨w.heap.size,4,none⟩=some (c.room:Y):=Pf
 have b5:(w.alloc (.cells #[c.fp,c.tp,c.ki,c.go,c.room,c.keep] 41)).cell? ⟨w.heap.size,5,none⟩=some (c.keep:Y):=Pf
 clear j;unfold pp at A|-;obtain⟨R,E⟩:∃R,R=fz now c:=⟨_,Z⟩;rw[<-E];have u:=H (show R=(((dZ now c).step now 1).Cc,[((dZ now c).step now 1).x7])from E);clear E t z
 go_enter Tryz.func14,Tryz.ntmps14
 go_wp2_with fail;clear N P U V b4 b5;generalize w.alloc (.cells #[c.fp,c.tp,c.ki,c.go,c.room,c.keep] 41)=w1 at *;refine A.mono ?_;rintro e w2⟨f,rfl,g,I,hi⟩;replace a:=H (a.trans (I.mono (Nat.le_of_lt q)));have i:=H g;have F:=H (show f.Hi w.heap.size from⟨by have:=hi.C;omega,by have:=hi.S;omega,by have:=hi.T;omega,by have:=hi.G;omega,by have:=hi.X;omega,by have:=hi.R;omega⟩);clear A g I hi q;have J:=H (show(dZ now c).tries<=12 from(D:(0:Int)<=12));generalize dZ now c=d at u B i J;go_wp2_with fail;refine(cR f d now 1 _ i.o B.st D).mono ?_;rintro e w9⟨rfl,g,h⟩;replace a:=H (a.trans (h.hi a.size F.o));replace i:=H g;clear g h;have K:=H (B.step L.o J.o 1);generalize d.step now 1=d1 at u K i;go_wp2_with fail;refine(jp f d1 _ i.o K.o).mono ?_;rintro e l⟨n,p,rfl,r,g,h⟩;replace a:=H (a.trans (h.hi a.size F.o));replace i:=H g;have x:=H r;clear g h r;unfold dY;have s:=(L5 l.heap.size l).alloc (L6 _) (.cells (aX (d1.x7,n,p)).toArray 53);have bI:=H (bj (aS.new l (d1.x7,n,p)));replace x:=H (x.keep s.size (.below s));replace i:=H (i.below s);replace a:=H (a.trans (s.mono a.size));clear s;go_wp2_with fail;change Calls _ _ #[Value.slice none 0 0,Value.slice (some ⟨l.heap.size,0,none⟩) [((d1.x7,n,p):cP)].length 1] (l.alloc (.cells (aX (d1.x7,n,p)).toArray 53)) _;generalize l.heap.size=NB at bI|-;generalize l.alloc (.cells (aX (d1.x7,n,p)).toArray 53)=w6 at bI i a x|-;refine(cN w6 w.heap.size _ [] (cI.nil _ _) NB 0 1 [(d1.x7,n,p)] bI.o (fun y hy=>by rw[Ly.1 hy];exact x.o) IK a.size).mono ?_;rintro e w8⟨v',rfl,h1,h2,-⟩;have ca:=H (i.grown h2 (fun k e=>by cases e));have cb:=H (a.trans ⟨h2.os,h2.tape,h2.output,h2.size,fun k hk=>h2.block k (Ld hk a.size) (fun e=>by cases e)⟩);have HL:=H (show aL w8 w.heap.size v' [d1.x7]from⟨_,Z,h1⟩);clear h1 h2;go_wp2_with fail
 go_ret3
 exact⟨f,v',Z,by rw[u.o];exact HL.o,by rw[u.o];exact ca.o,cb.o,F.o⟩
theorem vi (now:Int) (c:Cf) (w:World) (g:c.okB=false) :
  Calls Tryz.prog 14 #[now,pp c] w (As w):=by
 have d:=H (sX now c (w.alloc (.cells #[c.fp,c.tp,c.ki,c.go,c.room,c.keep] 41)) g);have a:=H ((L5 w.heap.size w).alloc (L6 _) (.cells #[c.fp,c.tp,c.ki,c.go,c.room,c.keep] 41));unfold pp at d|-
 go_enter Tryz.func14,Tryz.ntmps14
 go_wp2_with fail;refine d.mono ?_;rintro e h⟨rfl,f⟩;replace a:=H (a.trans (f.mono a.size));clear f d;go_wp2_with fail
 go_ret3
 exact⟨Z,a.o⟩
theorem aS.qn {B:Nat}{x:cP}{W W':World}(h:aS B x W)(a:Below W.heap.size W W'):aS B x W':=h.below a
structure Arg (w:World)(c:Cf)(x:cP)(W:World):Prop where
 cf:W.heap[w.heap.size]? =some (.cells #[c.fp,c.tp,c.ki,c.go,c.room,c.keep] 41)
 row:aS (w.heap.size+1) x W
 bl:bE W x.2.1 x.1.bl
 qn:Below w.heap.size w W
theorem Arg.below {w:World}{c:Cf}{x:cP}{W W':World}(h:Arg w c x W)(a:Below W.heap.size W W'):Arg w c x W' :=
 ⟨(a.block _ (L8.1 h.cf).1).trans h.cf,h.row.below a,h.bl.keep a.size (.below a),h.qn.trans (a.mono h.qn.size)⟩
theorem Arg.cell {w:World}{c:Cf}{x:cP}{W:World}(h:Arg w c x W)(i:Nat)(v:Value)(a:(#[c.fp,c.tp,c.ki,c.go,c.room,c.keep]:Array Value)[i]? =some v):W.cell? ⟨w.heap.size,i,none⟩=some v:=by rw[Lq _ _ _ _ _ _ h.cf];exact a
theorem Arg.start {w:World}{c:Cf}{x:cP}(d:bE w x.2.1 x.1.bl):Arg w c x ((w.alloc (.cells #[c.fp,c.tp,c.ki,c.go,c.room,c.keep] 41)).alloc (.cells (aX x).toArray 53)):=by
 have h1:=(L5 w.heap.size w).alloc (L6 _) (.cells #[c.fp,c.tp,c.ki,c.go,c.room,c.keep] 41);have hz:(w.alloc (.cells #[c.fp,c.tp,c.ki,c.go,c.room,c.keep] 41)).heap.size=w.heap.size+1:=M1 ..;have h0:=Ls w (.cells #[c.fp,c.tp,c.ki,c.go,c.room,c.keep] 41);generalize w.alloc (.cells #[c.fp,c.tp,c.ki,c.go,c.room,c.keep] 41)=w1 at *;have h2:=(L5 w1.heap.size w1).alloc (L6 _) (.cells (aX x).toArray 53);have a:=aS.new w1 x;rw[hz]at a;exact⟨(h2.block _ O).trans h0,a,(d.keep h1.size (.below h1)).keep h2.size (.below h2),h1.trans (h2.mono O)⟩
theorem rB (now:Int) (c:Cf) (s:Sg) (a:Option Addr) (cap:Nat) (w:World) (j:c.okB=true) (I:Gl w) (J:aI now) (hs:s.Ok) (hy:s.syn=true) (hh:s.has=false) (hp:s.fp=c.tp) (hq:s.tp=c.fp) (p:bE w a s.bl) :
  Calls Tryz.prog 26 #[now,pp c,dY s a cap] w (yi w (cZ now c s).2 (cZ now c s).1):=by
 have HN:=H J;have K:=I.top;have HG:=H I;have e3:=H hs;have L:=H hy;have HH:=H hh;have HP:=H hp;have HQ:=H hq;have M:=H (gE J j);have ev:=H j;have ey:=(Sg.Ej s).2 hs;have h:=H (Arg.start (c:=c) (x:=(s,a,cap)) p);clear J I hs hy hh hp hq p j;unfold pp dY;obtain⟨R,N⟩:∃R,R=cZ now c s:=⟨_,Z⟩;rw[<-N];have z:=H (show R=((((dZ now c).meet s).step now 2).Cc,[(((dZ now c).meet s).step now 2).x7])from N);clear N
 go_enter Tryz.func26,Tryz.ntmps26
 go_upto_region 1 with fail
 change Code.wp _ _ _ _ ((w.alloc (.cells #[c.fp,c.tp,c.ki,c.go,c.room,c.keep] 41)).alloc (.cells (aX (s,a,cap)).toArray 53));generalize ((w.alloc (.cells #[c.fp,c.tp,c.ki,c.go,c.room,c.keep] 41)).alloc (.cells (aX (s,a,cap)).toArray 53))=w1 at h|-;have P:=h.row.cell 0 _ Z;have U:=h.row.cell 1 _ Z;have V:=h.row.cell 2 _ Z;have q3:=h.row.cell 3 _ Z;have q4:=h.row.cell 4 _ Z;have q5:=h.row.cell 5 _ Z;have q6:=h.row.cell 6 _ Z;have q7:=h.row.cell 7 _ Z;have q8:=h.row.cell 8 _ Z;have q9:=h.row.cell 9 _ Z;have ch:=h.row.cell 10 _ Z;have ci:=h.row.cell 11 _ Z;have cl:=h.row.cell 12 _ Z;go_wp2_with fail;refine(iD s a cap _ h.bl).mono ?_;rintro e w2⟨rfl,p⟩;replace h:=H (h.below p);clear p;clear P U V q3 q4 q5 q6 q7 q8 q9 ch ci cl;have r4:=(h.row.cell 4 s.syn Z).trans (by rw[L.o]);have r7:=(h.row.cell 7 s.has Z).trans (by rw[HH.o]);have r0:=h.row.cell 0 s.fp Z;have r1:=h.row.cell 1 s.tp Z;rw[HP.o]at r0;rw[HQ.o]at r1;have b0:=h.cell 0 c.fp Z;have b1:=h.cell 1 c.tp Z;have b2:=h.cell 2 c.ki Z;have b3:=h.cell 3 c.go Z;have b4:=h.cell 4 c.room Z;have b5:=h.cell 5 c.keep Z;go_wp2_with fail;clear r4 r7 r0 r1;clear b0 b1 b2 b3 b4 b5;have HV:=H (mv now c w2 ev.o (HG.below (h.qn.mono K)));unfold pp at HV;refine HV.mono ?_;rintro e w3⟨f,rfl,j,p,hi⟩;have hz:=h.qn.size;replace h:=H (h.below p);clear p;have l:=H j;have r:=H (show f.Hi w.heap.size from⟨La hz hi.C,La hz hi.S,La hz hi.T,La hz hi.G,La hz hi.X,La hz hi.R⟩);clear HV j hi hz;have bc:=H (show((dZ now c).meet s).tries<=12 from(D:(0:Int)<=12));have E:=H (M.meet e3.o L.o);generalize dZ now c=d at z M l bc E;have P:=h.row.cell 0 _ Z;have U:=h.row.cell 1 _ Z;have V:=h.row.cell 2 _ Z;have q3:=h.row.cell 3 _ Z;have q4:=h.row.cell 4 _ Z;have q5:=h.row.cell 5 _ Z;have q6:=h.row.cell 6 _ Z;have q7:=h.row.cell 7 _ Z;have q8:=h.row.cell 8 _ Z;have q9:=h.row.cell 9 _ Z;have ch:=h.row.cell 10 _ Z;have ci:=h.row.cell 11 _ Z;have cl:=h.row.cell 12 _ Z;go_wp2_with fail;refine(kg f d s a cap _ l.o M.o e3.o L.o).mono ?_;rintro e q⟨rfl,g,hg,j,i⟩;clear P U V q3 q4 q5 q6 q7 q8 q9 ch ci cl;have n:=H (h.qn.trans (i.hi h.qn.size r.o));have bd:=H (show Fp.Hi { f with G:=g } w.heap.size from⟨r.C,r.S,r.T,La h.qn.size hg,r.X,r.R⟩);replace l:=H j;have a0:({ f with G:=g }:Fp).C=f.C:=Z;clear hg j i h;generalize d.meet s=d1 at z E l bc;go_wp2_with fail;refine(cR { f with G:=g } d1 now 2 _ l.o E.st D).mono ?_;rintro e w5⟨rfl,j,i⟩;replace n:=H (n.trans (i.hi n.size bd.o));replace l:=H j;clear j i;have be:=H (E.step HN.o bc.o 2);generalize d1.step now 2=d2 at z be l;go_wp2_with fail;refine(jp { f with G:=g } d2 _ l.o be.o).mono ?_;rintro e q⟨t,u,rfl,A,j,i⟩;replace n:=H (n.trans (i.hi n.size bd.o));replace l:=H j;have F:=H A;clear j i A a0;unfold dY;have B:=(L5 q.heap.size q).alloc (L6 _) (.cells (aX (d2.x7,t,u)).toArray 53);have bI:=H (bj (aS.new q (d2.x7,t,u)));replace F:=H (F.keep B.size (.below B));replace l:=H (l.below B);replace n:=H (n.trans (B.mono n.size));clear B;go_wp2_with fail;change Calls _ _ #[Value.slice none 0 0,Value.slice (some ⟨q.heap.size,0,none⟩) [((d2.x7,t,u):cP)].length 1] (q.alloc (.cells (aX (d2.x7,t,u)).toArray 53)) _;generalize q.heap.size=NB at bI|-;generalize q.alloc (.cells (aX (d2.x7,t,u)).toArray 53)=w6 at bI l n F|-;refine(cN w6 w.heap.size _ [] (cI.nil _ _) NB 0 1 [(d2.x7,t,u)] bI.o (fun y hy=>by rw[Ly.1 hy];exact F.o) IK n.size).mono ?_;rintro e w8⟨v',rfl,h1,h2,-⟩;have ca:=H (l.grown h2 (fun k e=>by cases e));have cb:=H (n.trans ⟨h2.os,h2.tape,h2.output,h2.size,fun k hk=>h2.block k (Ld hk n.size) (fun e=>by cases e)⟩);have HL:=H (show aL w8 w.heap.size v' [d2.x7]from⟨_,Z,h1⟩);clear h1 h2;go_wp2_with fail
 go_ret3
 exact⟨{ f with G:=g },v',Z,by rw[z.o];exact HL.o,by rw[z.o];exact ca.o,cb.o,bd.o⟩
end
section
set_option maxHeartbeats 8000000
set_option maxRecDepth 100000
open Go.RowKit Go.Shelf
def yj (x:Rw)(kq:List Int)(n m:Nat)(w:World)(e:Ending)(w':World):Prop :=
 ∃t,e= .returned (.tuple #[.pointer (some ⟨t.B,0,none⟩),true])/\C9 w.heap.size t (eK x kq n m) w'/\Below w.heap.size w w'
def AU (a:Option Addr)(x:Rw)(kq:List Int)(n m:Nat)(w:World)(e:Ending)(w':World):Prop :=
 ∃t,e= .returned (.tuple #[.pointer (some ⟨t.B,0,none⟩),true])/\C9 w.heap.size t (eK x kq n m) w'/\Below w.heap.size w w'/\t.aF=a
theorem AV (W:World)(ty:TypeId)(cs ds:List Value):zc W.heap.size ty cs ((W.alloc (.cells cs.toArray ty)).alloc (.cells ds.toArray ty))/\zc (W.heap.size+1) ty ds ((W.alloc (.cells cs.toArray ty)).alloc (.cells ds.toArray ty))/\Below W.heap.size W ((W.alloc (.cells cs.toArray ty)).alloc (.cells ds.toArray ty)):=by
 have e:=(L5 W.heap.size W).alloc (L6 _) (.cells cs.toArray ty);have f:=zc.new W ty cs;have g:(W.alloc (.cells cs.toArray ty)).heap.size=W.heap.size+1:=M1 ..;generalize W.alloc (.cells cs.toArray ty)=w1 at *;have a:=(L5 w1.heap.size w1).alloc (L6 _) (.cells ds.toArray ty);have d:=zc.new w1 ty ds;rw[g]at d;exact⟨f.below a,d,e.trans (a.mono O)⟩
theorem zc.Iq {B:Nat}{ty:TypeId}{cs:List Value}{W:World}{a b c d e f:Value}(h:zc B ty cs W)(o:Nat):zc B ty ((((((cs.set o a).set (o+1) b).set (o+2) c).set (o+3) d).set (o+4) e).set (o+5) f) ((((((W.setCell ⟨B,o,none⟩ a).setCell ⟨B,o+1,none⟩ b).setCell ⟨B,o+2,none⟩ c).setCell ⟨B,o+3,none⟩ d).setCell ⟨B,o+4,none⟩ e).setCell ⟨B,o+5,none⟩ f) :=
 (((((h.set o a).set (o+1) b).set (o+2) c).set (o+3) d).set (o+4) e).set (o+5) f
theorem rC {a b c d e f:Value}{N C:Nat}{w W:World}(h:Below N w W)(g:N<=C)(o:Nat):Below N w ((((((W.setCell ⟨C,o,none⟩ a).setCell ⟨C,o+1,none⟩ b).setCell ⟨C,o+2,none⟩ c).setCell ⟨C,o+3,none⟩ d).setCell ⟨C,o+4,none⟩ e).setCell ⟨C,o+5,none⟩ f) :=
 (((((h.setCell g a).setCell g b).setCell g c).setCell g d).setCell g e).setCell g f
theorem zc.range {B:Nat}{ty:TypeId}{cs:List Value}{W:World}(h:zc B ty cs W):W.rangeAt B 0 cs:=fun j v a=>by rw[MQ];exact h.cell j v a
theorem BV {f g:Fp}{c:Cn}{w:World}(h:kn f c w)(k:g.Hi w.heap.size):kn.Hz f g :=
 ⟨by have:=h.Cx.lt;have:=k.C;omega,by have:=h.Dh.lt;have:=k.S;omega,by have:=h.Dm.lt;have:=k.T;omega,by have:=h.Dn.lt;have:=k.G;omega,by have:=h.Dp.lt;have:=k.X;omega,by have:=h.Dq.lt;have:=k.R;omega⟩
theorem rD {N:Nat}{a:Option Addr}{l:List Int}{w w':World}(h:D8 N a l w)(d:Below N w w'):D8 N a l w':=C9.DN h d.block
theorem C2 {f:Fp}{N:Nat}(h:f.Hi N)(k:Nat)(a:f.has k):N<=k:=by
 have:=h.C;have:=h.S;have:=h.T;have:=h.G;have:=h.X;have:=h.R;unfold Fp.has at a;omega
theorem AW {N d:Nat}{f f2:Fp}{g:Option Addr}{h:Nat}{x:Rw}{kq:List Int}{n m:Nat}{W:World}
  (i:zc d 38 [f.C,.string ⟨(dV 0 n).toArray⟩,(0:Int),.string ⟨#[]⟩,false,false,f2.C,.string ⟨(dV 1 m).toArray⟩,(0:Int),.string ⟨#[]⟩,false,false,.slice none 0 0,(0:Int),.slice g kq.length h,(0:Int),.slice none 0 0] W)
  (h1:kn f (fz 0 (ee x)).1 W)(h2:kn f2 (cZ 0 (eF x) (gA x)).1 W)(j:kn.Hz f f2)(l:D8 N g kq W)(o:N<=d)(k1:f.Hi N)(p:f2.Hi N)(q:dy<=N):C9 N ⟨d,f,f2,.slice none 0 0,.slice none 0 0,g,h⟩ (i5 x kq n m) W :=
 ⟨i,h1,h2,j,qr.nil _ _,qr.nil _ _,(fun k e=>nomatch e),l,(fun k a=>by
  rcases a with a | a | a | a | a
  ·rw[a];exact o
  ·exact C2 k1 k a
  ·exact C2 p k a
  ·cases a
  ·cases a),q⟩
theorem BW {M:List cP}{s:Sg}(h:M.map (·.1)=[s]):∃y,M=[y]/\y.1=s:=by
 match M,h with
 | [y],h=>exact⟨y,Z,IY⟩
 | [],h=>cases h
 | _::_::_,h=>simp at h
def CI (a:Option Addr)(d e:Nat):List Value:=[Value.pointer none,.string ⟨#[]⟩,(0:Int),.string ⟨#[]⟩,false,false,Value.pointer none,.string ⟨#[]⟩,(0:Int),.string ⟨#[]⟩,false,false,.slice none 0 0,(0:Int),.slice a d e,(0:Int),.slice none 0 0]
theorem vj (x:Rw) (kq:List Int) (E:Option Addr) (K:Nat) (n m:Nat) (w:World) (hx:x.In) (gl:Gl w) (hf:D8 w.heap.size E kq w) (hn:n<=1000) (hm:m<=1000) :
  Calls Tryz.prog 10 #[.agg (lY x).toArray,.slice E kq.length K,.int .i64 n,.int .i64 m] w (AU E x kq n m w):=by
 have HX:=H hx;have HG:=H gl;have e4:=H hf;have L:=H (th x);have HN:=H hn;have HM:=H hm;clear hx gl hf hn hm;have F:=H (zc.new w 23 (lY x));have d:=H ((L5 w.heap.size w).alloc (L6 _) (.cells (lY x).toArray 23));obtain⟨N,V⟩:∃N,N=kq.length:=⟨_,Z⟩;rw[<-V];have e5:=H V;clear V
 go_enter Tryz.func10,Tryz.ntmps10
 go_upto_region 1 with fail
 change Code.wp _ _ _ _ (w.alloc (.cells (lY x).toArray 23));obtain⟨W0,a6⟩:∃W0,W0=w.heap.size:=⟨_,Z⟩;rw[<-a6]at F|-;clear a6;generalize w.alloc (.cells (lY x).toArray 23)=w1 at F d|-;have r0:=F.cell 0 _ Z;have r1:=F.cell 1 _ Z;have r2:=F.cell 2 _ Z;have r3:=F.cell 3 _ Z;have r4:=F.cell 4 _ Z;have r5:=F.cell 5 _ Z;go_wp2_with fail;refine(pH x _ HX.o).mono ?_;rintro e w2⟨rfl,q⟩;clear r0 r1 r2 r3 r4 r5;replace d:=H (d.trans (q.mono d.size));clear q F;dsimp only[pp]
 go_upto_region 2 with fail
 change Code.wp _ _ _ _ ((w2.alloc (.cells (rT (ee x)).toArray 41)).alloc (.cells (rT (eF x)).toArray 41));have z:=H (AV w2 41 (rT (ee x)) (rT (eF x)));replace d:=H (d.trans (z.2.2.mono d.size));obtain⟨NA,a7⟩:∃NA,NA=w2.heap.size:=⟨_,Z⟩;rw[<-a7]at z|-;clear a7;generalize (w2.alloc (.cells (rT (ee x)).toArray 41)).alloc (.cells (rT (eF x)).toArray 41)=w3 at d z|-;have ak:=H z.2.1;have a0:=z.1.cell 0 _ Z;have a1:=z.1.cell 1 _ Z;have a2:=z.1.cell 2 _ Z;have a3:=z.1.cell 3 _ Z;have a4:=z.1.cell 4 _ Z;have a5:=z.1.cell 5 _ Z;go_wp2_with fail;refine(vh 0 (ee x) _ L.1 (HG.below (d.mono HG.top)) ti).mono ?_;rintro e w4⟨f,v,rfl,ho,hc,q,hi⟩;clear a0 a1 a2 a3 a4 a5 z;replace ak:=H (ak.below q);have HI:=H (show f.Hi w.heap.size from⟨La d.size hi.C,La d.size hi.S,La d.size hi.T,La d.size hi.G,La d.size hi.X,La d.size hi.R⟩);replace d:=H (d.trans (q.mono d.size));have P:=H hc;clear q hc hi;obtain⟨M,hM,hG⟩:=ho;obtain⟨y,rfl,hy⟩:=BW (s:=gA x) hM;obtain⟨g,b4,rfl,b3,b0,b1,b2⟩:=hG.cells IK;have U:=H hy;have cn:=H (show w4.rangeAt g 0 (aX y)from fun j u hu=>by have:=b2 j u (by rw[show eO [y]=aX y++[]from Z,LP];exact hu);rwa [Mw]at this);have bz:=H (show bE w4 y.2.1 y.1.bl from hG.2 y IK);clear hM hG b2 hy
 go_upto_region 5 with fail
 refine az (fun W:World=>zc (NA+1) 41 (rT (eF x)) W/\W.rangeAt g 0 (aX y)) (⟨ak.o,cn.o⟩) fun r=>?_;replace d:=H d.drew;replace P:=H (P.drew);replace ak:=H (ak.below (L5 _ _).drew);replace bz:=H (bz.keep (L6 _) (.refl _):bE w4.drew y.2.1 y.1.bl);have b6:=H (show w4.drew.rangeAt g 0 (aX y)from cn.o);have b7:w4.drew.heap.size=w4.heap.size:=Z;generalize w4.drew=w5 at d P ak bz b6 r b7|-;have cC:g<w5.heap.size:=by rw[b7];exact b0
 clear cn b7;refine rm 0 (rT (eF x)) (fun _ h=>zc.range h.1) Tryz.underlying41 IL ?_ (y:=by((try simp only[Act.put,Lf,Lk,Lm,rT]);(try rfl)));refine aM 1 2 ?_;refine rm 3 (aX y) (fun _ h=>h.2) Tryz.underlying53 ie ?_ (y:=by((try simp only[Act.put,Lf,Lk,Lm,aX]);(try rfl)));refine aY 4 fun I i=> ?_;go_simp;refine(rB 0 (eF x) y.1 y.2.1 y.2.2 _ L.2 (HG.below (d.mono HG.top)) ti (by rw[U.o];exact tu x) (by rw[U.o];rfl) (by rw[U.o];rfl) (by rw[U.o];rfl) (by rw[U.o];rfl) bz.o).mono ?_;rintro e A⟨f2,v2,rfl,ho,hc,q,hi⟩;have ew:=q.size;replace ak:=H (ak.below q);have bd:=H (show f2.Hi w.heap.size from⟨La d.size hi.C,La d.size hi.S,La d.size hi.T,La d.size hi.G,La d.size hi.X,La d.size hi.R⟩);have e6:=H (BV P.o hi);have e7:=H hc;replace P:=H (P.below q);have be:=H (show aL A w5.heap.size v2 [(fL 0 (eF x) (gA x)).x7]from by rw[<-U.o];exact ho);have cL:=H (show A.rangeAt g 0 (aX y)from fun j u hu=>(q.cell (p:=⟨g,0+j,none⟩) cC).trans (b6.o j u hu));replace d:=H (d.trans (q.mono d.size));clear q hi hc ho b6;go_simp;refine i.out _ _ (⟨ak.o,cL.o⟩) ?_;clear i I r;refine fun r=>aW ?_;refine aA 5 6 7 8 ?_;refine aM 9 10 ?_;refine aQ 11 ?_;refine ay ?_ _;clear r cL ak bz b0 b3 b1 cC;have cM:=H (show kn f2 (cZ 0 (eF x) (gA x)).1 A from by rw[<-U.o];exact e7.o);clear e7 U
 go_upto_region 9 with fail
 change Code.wp _ _ _ _ (A.alloc (.cells (CI E N K).toArray 38));have a:=H (zc.new A 38 (CI E N K));have l:=H ((L5 A.heap.size A).alloc (L6 _) (.cells (CI E N K).toArray 38));generalize cT:A.heap.size=PB at a l|-;have J:=H cT;clear cT;generalize A.alloc (.cells (CI E N K).toArray 38)=w7 at a l|-;refine az (fun _:World=>True) (trivial) fun r=>?_;replace a:=H (a.below (L5 _ _).drew);replace l:=H l.drew;generalize w7.drew=Ip at a l r|-;refine aA 0 1 2 5 ?_;refine aQ 6 ?_;refine aY 3 fun I i=> ?_;go_simp;refine(qf 0 n _ (.inl Z) HN.o).mono ?_;rintro e wp⟨rfl,q⟩;replace a:=H (a.below q);replace l:=H (l.trans (q.mono (by have h9:=l.size;rw[J.o]at h9;exact h9)));clear q;go_simp;refine i.out _ _ (trivial) ?_;clear i I r;refine fun r=>aW ?_;refine aM 4 7 ?_;refine aY 8 fun I i=> ?_;have cw:=a.free 0;have dT:=a.free 1;have d0:=a.free 2;have da:=a.free 3;have dc:=a.free 4;have di:=a.free 5;have dk:=a.cell 0 _ Z;have dl:=a.cell 1 _ Z;have dn:=a.cell 2 _ Z;have dp:=a.cell 3 _ Z;have dv:=a.cell 4 _ Z;have eL:=a.cell 5 _ Z;go_simp;clear cw dk dT dl d0 dn da dp dc dv di eL;have b8:=H (show zc PB 38 ([f.C,.string ⟨(dV 0 n).toArray⟩,(0:Int),.string ⟨#[]⟩,false,false,Value.pointer none,.string ⟨#[]⟩,(0:Int),.string ⟨#[]⟩,false,false,.slice none 0 0,(0:Int),.slice E N K,(0:Int),.slice none 0 0]) ((((((wp.setCell PB f.C).setCell ⟨PB,1,none⟩ (.string ⟨(dV 0 n).toArray⟩)).setCell ⟨PB,2,none⟩ (0:Int)).setCell ⟨PB,3,none⟩ (.string ⟨#[]⟩)).setCell ⟨PB,4,none⟩ false).setCell ⟨PB,5,none⟩ false)from a.Iq 0);have b9:=H (show Below PB A ((((((wp.setCell PB f.C).setCell ⟨PB,1,none⟩ (.string ⟨(dV 0 n).toArray⟩)).setCell ⟨PB,2,none⟩ (0:Int)).setCell ⟨PB,3,none⟩ (.string ⟨#[]⟩)).setCell ⟨PB,4,none⟩ false).setCell ⟨PB,5,none⟩ false)from rC l.o (L6 _) 0);generalize ((((((wp.setCell PB f.C).setCell ⟨PB,1,none⟩ (.string ⟨(dV 0 n).toArray⟩)).setCell ⟨PB,2,none⟩ (0:Int)).setCell ⟨PB,3,none⟩ (.string ⟨#[]⟩)).setCell ⟨PB,4,none⟩ false).setCell ⟨PB,5,none⟩ false)=w8 at b8 b9|-;clear a l;have a:=b8;have l:=b9;clear b8 b9;refine i.out _ _ (trivial) ?_;clear i I r;refine fun r=>aW ?_;refine ay ?_ _;clear r
 go_upto_region 10 with fail
 refine az (fun _:World=>True) (trivial) fun r=>?_;replace a:=H (a.below (L5 _ _).drew);replace l:=H l.drew;generalize w8.drew=Is at a l r|-;refine aA 0 1 2 5 ?_;refine aQ 6 ?_;refine aY 3 fun I i=> ?_;go_simp;refine(qf 1 m _ (.inr Z) HM.o).mono ?_;rintro e wp⟨rfl,q⟩;replace a:=H (a.below q);replace l:=H (l.trans (q.mono (by have h9:=l.size;rw[J.o]at h9;exact h9)));clear q;go_simp;refine i.out _ _ (trivial) ?_;clear i I r;refine fun r=>aW ?_;refine aM 4 7 ?_;refine aY 8 fun I i=> ?_;have cw:=a.free 6;have dT:=a.free 7;have d0:=a.free 8;have da:=a.free 9;have dc:=a.free 10;have di:=a.free 11;have dk:=a.cell 6 _ Z;have dl:=a.cell 7 _ Z;have dn:=a.cell 8 _ Z;have dp:=a.cell 9 _ Z;have dv:=a.cell 10 _ Z;have eL:=a.cell 11 _ Z;go_simp;clear cw dk dT dl d0 dn da dp dc dv di eL;have b8:=H (show zc PB 38 ([f.C,.string ⟨(dV 0 n).toArray⟩,(0:Int),.string ⟨#[]⟩,false,false,f2.C,.string ⟨(dV 1 m).toArray⟩,(0:Int),.string ⟨#[]⟩,false,false,.slice none 0 0,(0:Int),.slice E N K,(0:Int),.slice none 0 0]) ((((((wp.setCell ⟨PB,6,none⟩ f2.C).setCell ⟨PB,7,none⟩ (.string ⟨(dV 1 m).toArray⟩)).setCell ⟨PB,8,none⟩ (0:Int)).setCell ⟨PB,9,none⟩ (.string ⟨#[]⟩)).setCell ⟨PB,10,none⟩ false).setCell ⟨PB,11,none⟩ false)from a.Iq 6);have b9:=H (show Below PB A ((((((wp.setCell ⟨PB,6,none⟩ f2.C).setCell ⟨PB,7,none⟩ (.string ⟨(dV 1 m).toArray⟩)).setCell ⟨PB,8,none⟩ (0:Int)).setCell ⟨PB,9,none⟩ (.string ⟨#[]⟩)).setCell ⟨PB,10,none⟩ false).setCell ⟨PB,11,none⟩ false)from rC l.o (L6 _) 6);generalize ((((((wp.setCell ⟨PB,6,none⟩ f2.C).setCell ⟨PB,7,none⟩ (.string ⟨(dV 1 m).toArray⟩)).setCell ⟨PB,8,none⟩ (0:Int)).setCell ⟨PB,9,none⟩ (.string ⟨#[]⟩)).setCell ⟨PB,10,none⟩ false).setCell ⟨PB,11,none⟩ false)=w9 at b8 b9|-;clear a l;have a:=b8;have l:=b9;clear b8 b9;refine i.out _ _ (trivial) ?_;clear i I r;refine fun r=>aW ?_;refine ay ?_ _;clear r;have e8:=H (show C9 w.heap.size ⟨PB,f,f2,.slice none 0 0,.slice none 0 0,E,K⟩ (i5 x kq n m) w9 from AW (by rw[<-e5.o];exact a.o) (P.below (by rw[J.o];exact l.o)) (cM.out.below (by rw[J.o];exact l.o)) e6.o (rD e4.o (d.trans (l.mono (by rw[<-J.o];exact d.size)))) (by rw[<-J.o];exact d.size) HI.o bd.o HG.top);replace be:=H (be.below (by rw[J.o];exact l.o));have e9:=H (d.trans (l.mono (by rw[<-J.o];exact d.size)));clear a P cM e6 e4 HI bd l J e5 d HG HX L HN HM;go_wp2_with fail;have cS:=cO w.heap.size _ _ true _ _ _ _ e8.o be.o (by show 0+1<=500000000000;decide) (by show 0+2*1<=500000000000;decide) (by show 0+1<=1000000000000;decide) ⟨Lb _,by show(0:Int)<=1000000;decide⟩;refine cS.mono ?_;rintro e wz⟨rfl,t,k⟩;clear cS;have L:=H k;clear k;go_wp2_with fail;have ex:t.B=PB:=L.eB
 go_ret2
 refine⟨t,by rw[ex];rfl,L.pa,e9.trans (L.fr.below e9.size e8.lo),L.eC.2.2⟩
theorem mw (x:Rw)(kq:List Int)(d:Option Addr)(e:Nat)(n m:Nat)(w:World)(f:x.In)(g:Gl w)(i:D8 w.heap.size d kq w)(j:n<=1000)(k:m<=1000) :
  Calls Tryz.prog 10 #[.agg (lY x).toArray,.slice d kq.length e,.int .i64 n,.int .i64 m] w (yj x kq n m w) :=
 (vj x kq d e n m w f g i j k).mono fun _ _ h=>let ⟨t,a,b,c,_⟩:=h;⟨t,a,b,c⟩
end
end Go.Proofs.YtcmncipikdpnbaaGreatDoor
