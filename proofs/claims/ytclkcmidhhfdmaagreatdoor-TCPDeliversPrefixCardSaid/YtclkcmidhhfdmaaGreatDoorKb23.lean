import Derived.Test.YtclkcmidhhfdmaaGreatDoorKb7
import Derived.Test.YtclkcmidhhfdmaaGreatDoorKb11
import Derived.Test.YtclkcmidhhfdmaaGreatDoorKb17
import Derived.Test.YtclkcmidhhfdmaaGreatDoorKb20
import Derived.Test.YtclkcmidhhfdmaaGreatDoorKb22
namespace Go.Proofs.YtclkcmidhhfdmaaGreatDoor
open Go.RowKit Go.Shelf
def SpanKept (w w':World):Prop:=∀ b,TyB w b 92->w'.heap[b]? =w.heap[b]?
theorem SpanKept.refl (w:World):SpanKept w w:=fun _ _=>rfl
theorem SpanKept.below {w w':World} (h:Below w.heap.size w w'):SpanKept w w':=fun b hb=>h.block b hb.lt
theorem SpanKept.chg {C:Nat} {t:TypeId} {w w':World} (h:Chg C w w') (hC:TyB w C t) (ht:t≠92):SpanKept w w':=fun b hb=>h.block b hb.lt (hb.ne hC (Ne.symm ht))
theorem SpanKept.chg2 {X R:Nat} {t u:TypeId} {w w':World} (h:Chg2 X R w w') (hX:TyB w X t) (hR:TyB w R u) (ht:t≠92) (hu:u≠92):SpanKept w w':=fun b hb=>h.block b hb.lt (hb.ne hX (Ne.symm ht)) (hb.ne hR (Ne.symm hu))
theorem SpAt.keep {L:List Sp} {a:Option Addr} {w w':World} (h:SpAt w w.heap.size a L) (hty:0<L.length->∀ ad,a=some ad->TyB w ad.block 92) (hs:w.heap.size<=w'.heap.size) (hk:SpanKept w w'):SpAt w' w'.heap.size a L:=by
 refine ⟨h.small,fun hl=> ?_⟩;obtain ⟨b,o,ha,hb,hcs⟩:=h.cells hl;have e:=hk b (hty hl _ ha);exact ⟨b,o,ha,Nat.lt_of_lt_of_le hb hs,fun i hi=>⟨(World.cell?_of_block (a:=⟨b,_,none⟩) e).trans (hcs i hi).1,(World.cell?_of_block (a:=⟨b,_,none⟩) e).trans (hcs i hi).2⟩⟩
theorem LstAt.keep {lb:Nat} {L:List Sp} {a:Option Addr} {cap:Nat} {w w':World} (h:LstAt lb L a cap w) (hs:w.heap.size<=w'.heap.size) (hk:SpanKept w w'):LstAt lb L a cap w' :=
 ⟨h.1.keep h.2.2.2.2 hs hk,h.2.1,h.2.2.1,h.2.2.2.1,fun hl ad e=>(h.2.2.2.2 hl ad e).of (hk _ (h.2.2.2.2 hl ad e))⟩
theorem ScAt.keep {B lb:Nat} {s:Sc} {w w':World} (h:ScAt B lb s w) (hb:w'.heap[B]? =w.heap[B]?) (hs:w.heap.size<=w'.heap.size) (hk:SpanKept w w'):ScAt B lb s w':=by
 obtain ⟨h1,⟨h2,h3⟩,sa,sc,ga,gc,hcs,ls,lg⟩:=h;exact ⟨h1,⟨Nat.le_trans h2 hs,Nat.le_trans h3 hs⟩,sa,sc,ga,gc,hb.trans hcs,ls.keep hs hk,lg.keep hs hk⟩
theorem BoxAt.keep {B R lb:Nat} {b:Bx} {w w':World} (h:BoxAt B R lb b w) (hB:w'.heap[B]? =w.heap[B]?) (hR:w'.heap[R]? =w.heap[R]?) (hs:w.heap.size<=w'.heap.size) (hk:SpanKept w w'):BoxAt B R lb b w':=by
 obtain ⟨h0,hr,a,cap,hbk,h1,h2,h3⟩:=h;exact ⟨h0,hR.trans hr,a,cap,hB.trans hbk,⟨h1.toSpAt.keep h1.ty hs hk,fun hp ad e=>(h1.ty hp ad e).of (hk _ (h1.ty hp ad e))⟩,h2,h3⟩
theorem Tim.keep {B:Nat} {m:Tm} {w w':World} (h:Tim B m w) (hb:w'.heap[B]? =w.heap[B]?):Tim B m w':=by
 obtain ⟨t,ht⟩:=h;exact ⟨t,hb.trans ht⟩
theorem Cng.keep {B:Nat} {m:Cg} {w w':World} (h:Cng B m w) (hb:w'.heap[B]? =w.heap[B]?):Cng B m w':=by
 obtain ⟨t,ht⟩:=h;exact ⟨t,hb.trans ht⟩
theorem ScAtG.tyb {B lbs lbg:Nat} {s:Sc} {w:World} (h:ScAtG B lbs lbg s w):TyB w B 171:=by
 obtain ⟨-,-,sa,sc,ga,gc,hcs,-⟩:=h;exact ⟨_,_,hcs⟩
theorem BoxAt.tyb {B R lb:Nat} {b:Bx} {w:World} (h:BoxAt B R lb b w):TyB w B 156/\TyB w R 5:=by
 obtain ⟨h0,hr,a,cap,hbk,-⟩:=h;exact ⟨⟨_,_,hbk⟩,⟨_,_,hr⟩⟩
theorem Tim.tyb {B:Nat} {m:Tm} {w:World} (h:Tim B m w):TyB w B 147:=by
 obtain ⟨⟨t,rfl⟩,ht⟩:=h;exact ⟨_,_,ht⟩
theorem Cng.tyb {B:Nat} {m:Cg} {w:World} (h:Cng B m w):TyB w B 168:=by
 obtain ⟨⟨t,rfl⟩,ht⟩:=h;exact ⟨_,_,ht⟩
structure Fp where
 C:Nat
 S:Nat
 T:Nat
 G:Nat
 X:Nat
 R:Nat
structure Fp.Hi (f:Fp) (N:Nat):Prop where
 C:N<=f.C
 S:N<=f.S
 T:N<=f.T
 G:N<=f.G
 X:N<=f.X
 R:N<=f.R
def gTop:Nat:=0+1+1
structure Gl (w:World):Prop where
 tri:Triples w
 err:∃ a,ErrS a w
 top:gTop<=w.heap.size
theorem Gl.below {w w':World} (h:Gl w) (hb:Below gTop w w'):Gl w':=by
 obtain ⟨⟨t,fr,h1⟩,⟨a,h2⟩,h3⟩:=h;exact ⟨⟨t,fr,by rw [hb.block _ (by decide)];exact h1⟩,⟨a,h2.below hb (by decide)⟩,Nat.le_trans h3 hb.size⟩
def cnCells (f:Fp) (c:Cn):Array Value:= #[.pointer (some ⟨f.S,0,none⟩),.pointer (some ⟨f.T,0,none⟩),.pointer (some ⟨f.G,0,none⟩),.string ⟨c.held.toArray⟩,.int .i64 c.base,.int .i64 c.limit,.int .i64 c.largest,.int .i64 c.mss,.bool c.sacks,.bool c.shut,.int .i64 c.mark,.pointer (some ⟨f.X,0,none⟩),.int .i64 c.irs,.int .i64 c.room,.int .i64 c.ann,.bool c.ended,.int .i64 c.fend,.bool c.over,.int .i64 c.pend,.bool c.ackT.set,.int .i64 c.ackT.since,.int .i64 c.ackT.ticks,.int .i64 c.cf.fp,.int .i64 c.cf.tp,.int .i64 c.cf.iss,.int .i64 c.cf.mss,.int .i64 c.cf.room,.int .i64 c.cf.keep,.int .i64 c.st,.int .i64 c.err,.bool c.dl.set,.int .i64 c.dl.since,.int .i64 c.dl.ticks,.int .i64 c.tries,.bool c.per.set,.int .i64 c.per.since,.int .i64 c.per.ticks]
structure CnAt (f:Fp) (c:Cn) (w:World):Prop where
 blk:w.heap[f.C]? =some (.cells (cnCells f c) 104 (0,0))
 sc:ScAt f.S (f.S+1) c.sc w
 tm:Tim f.T c.tm w
 cg:Cng f.G c.cg w
 bx:BoxAt f.X f.R 0 c.bx w
 gl:Gl w
 hi:f.Hi gTop
structure ChgF (f:Fp) (w w':World):Prop where
 os:w'.os=w.os
 tape:w'.tape=w.tape
 output:w'.output=w.output
 size:w.heap.size<=w'.heap.size
 block:∀ k,k<w.heap.size->k≠f.C->k≠f.S->k≠f.T->k≠f.G->k≠f.X->k≠f.R->w'.heap[k]? =w.heap[k]?
theorem ChgF.refl (f:Fp) (w:World):ChgF f w w:=⟨rfl,rfl,rfl,Nat.le_refl _,fun _ _ _ _ _ _ _ _=>rfl⟩
theorem ChgF.trans {f:Fp} {a b c:World} (h:ChgF f a b) (k:ChgF f b c):ChgF f a c :=
 ⟨k.os.trans h.os,k.tape.trans h.tape,k.output.trans h.output,Nat.le_trans h.size k.size,fun i hi h1 h2 h3 h4 h5 h6=>(k.block i (Nat.lt_of_lt_of_le hi h.size) h1 h2 h3 h4 h5 h6).trans (h.block i hi h1 h2 h3 h4 h5 h6)⟩
theorem ChgF.trans' {f g:Fp} {a b c:World} (h:ChgF f a b) (k:ChgF g b c) (e1:g.C=f.C) (e2:g.S=f.S) (e3:g.T=f.T) (e4:g.G=f.G∨a.heap.size<=g.G) (e5:g.X=f.X) (e6:g.R=f.R):ChgF f a c :=
 ⟨k.os.trans h.os,k.tape.trans h.tape,k.output.trans h.output,Nat.le_trans h.size k.size,fun i hi h1 h2 h3 h4 h5 h6=>(k.block i (Nat.lt_of_lt_of_le hi h.size) (by omega) (by omega) (by omega) (by omega) (by omega) (by omega)).trans (h.block i hi h1 h2 h3 h4 h5 h6)⟩
theorem ChgF.ofB {f:Fp} {w w':World} (h:Below w.heap.size w w'):ChgF f w w':=⟨h.os,h.tape,h.output,h.size,fun k hk _ _ _ _ _ _=>h.block k hk⟩
theorem ChgF.ofC {f:Fp} {w w':World} (h:Chg f.C w w'):ChgF f w w':=⟨h.os,h.tape,h.output,h.size,fun k hk h1 _ _ _ _ _=>h.block k hk h1⟩
theorem ChgF.ofS {f:Fp} {w w':World} (h:Chg f.S w w'):ChgF f w w':=⟨h.os,h.tape,h.output,h.size,fun k hk _ h1 _ _ _ _=>h.block k hk h1⟩
theorem ChgF.ofT {f:Fp} {w w':World} (h:Chg f.T w w'):ChgF f w w':=⟨h.os,h.tape,h.output,h.size,fun k hk _ _ h1 _ _ _=>h.block k hk h1⟩
theorem ChgF.ofG {f:Fp} {w w':World} (h:Chg f.G w w'):ChgF f w w':=⟨h.os,h.tape,h.output,h.size,fun k hk _ _ _ h1 _ _=>h.block k hk h1⟩
theorem ChgF.ofX {f:Fp} {w w':World} (h:Chg2 f.X f.R w w'):ChgF f w w':=⟨h.os,h.tape,h.output,h.size,fun k hk _ _ _ _ h1 h2=>h.block k hk h1 h2⟩
theorem ChgF.lows {f:Fp} {w w':World} (h:ChgF f w w') (hf:f.Hi gTop) (ht:gTop<=w.heap.size):Below gTop w w' :=
 ⟨h.os,h.tape,h.output,h.size,fun k hk=>h.block k (by omega) (by have:=hf.C;omega) (by have:=hf.S;omega) (by have:=hf.T;omega) (by have:=hf.G;omega) (by have:=hf.X;omega) (by have:=hf.R;omega)⟩
theorem ChgF.below {f:Fp} {N:Nat} {w w':World} (h:ChgF f w w') (hs:N<=w.heap.size) (h1:N<=f.C) (h2:N<=f.S) (h3:N<=f.T) (h4:N<=f.G) (h5:N<=f.X) (h6:N<=f.R):Below N w w' :=
 ⟨h.os,h.tape,h.output,h.size,fun k hk=>h.block k (by omega) (by omega) (by omega) (by omega) (by omega) (by omega) (by omega)⟩
namespace CnAt
variable {f g : Fp} {c d : Cn} {w w' : World}
theorem tyC (h:CnAt f c w):TyB w f.C 104:=⟨_,_,h.blk⟩
theorem tyS (h:CnAt f c w):TyB w f.S 171:=h.sc.tyb
theorem tyT (h:CnAt f c w):TyB w f.T 147:=h.tm.tyb
theorem tyG (h:CnAt f c w):TyB w f.G 168:=h.cg.tyb
theorem tyX (h:CnAt f c w):TyB w f.X 156:=h.bx.tyb.1
theorem tyR (h:CnAt f c w):TyB w f.R 5:=h.bx.tyb.2
theorem lt (h:CnAt f c w):f.C<w.heap.size:=h.tyC.lt
theorem cell (h:CnAt f c w) (i:Nat) (v:Value) (hv:(cnCells f c)[i]? =some v):w.cell? ⟨f.C,i,none⟩=some v:=by rw [cell_of_row _ _ _ _ _ _ h.blk];exact hv
theorem free (h:CnAt f c w) (i:Nat):w.frozen? ⟨f.C,i,none⟩=false:=frozen_of_row _ _ _ _ _ h.blk
theorem keep (h:CnAt f c w) (hl:Below gTop w w') (hs:w.heap.size<=w'.heap.size) (hk:SpanKept w w') (h1:w'.heap[f.C]? =w.heap[f.C]?) (h2:w'.heap[f.S]? =w.heap[f.S]?) (h3:w'.heap[f.T]? =w.heap[f.T]?) (h4:w'.heap[f.G]? =w.heap[f.G]?) (h5:w'.heap[f.X]? =w.heap[f.X]?) (h6:w'.heap[f.R]? =w.heap[f.R]?):CnAt f c w' :=
 ⟨h1.trans h.blk,h.sc.keep h2 hs hk,h.tm.keep h3,h.cg.keep h4,h.bx.keep h5 h6 hs hk,h.gl.below hl,h.hi⟩
theorem below (h:CnAt f c w) (hb:Below w.heap.size w w'):CnAt f c w' :=
 h.keep (hb.mono h.gl.top) hb.size (.below hb) (hb.block _ h.tyC.lt) (hb.block _ h.tyS.lt) (hb.block _ h.tyT.lt) (hb.block _ h.tyG.lt) (hb.block _ h.tyX.lt) (hb.block _ h.tyR.lt)
theorem alloc (h:CnAt f c w) (o:Obj):CnAt f c (w.alloc o):=h.below ((Below.refl _ w).alloc (Nat.le_refl _) o)
theorem drew (h:CnAt f c w):CnAt f c w.drew:=h.below (Below.refl _ w).drew
theorem set (h:CnAt f c w) (i:Nat) (v:Value) (d:Cn) (he:(cnCells f c).setIfInBounds i v=cnCells f d) (e1:d.sc=c.sc) (e2:d.tm=c.tm) (e3:d.cg=c.cg) (e4:d.bx=c.bx):CnAt f d (w.setCell ⟨f.C,i,none⟩ v):=by
 have hc:Chg f.C w (w.setCell ⟨f.C,i,none⟩ v):=(Chg.refl _ _).setCell i v;have hk:=SpanKept.chg hc h.tyC (by decide);refine ⟨by rw [heap_setCell_same _ _ _ _ _ _ h.blk,he],?_,?_,?_,?_,h.gl.below ((ChgF.ofC hc).lows h.hi h.gl.top),h.hi⟩
 ·rw [e1];exact h.sc.keep (hc.block _ h.tyS.lt (h.tyS.ne h.tyC (by decide))) hc.size hk
 ·rw [e2];exact h.tm.keep (hc.block _ h.tyT.lt (h.tyT.ne h.tyC (by decide)))
 ·rw [e3];exact h.cg.keep (hc.block _ h.tyG.lt (h.tyG.ne h.tyC (by decide)))
 rw [e4];exact h.bx.keep (hc.block _ h.tyX.lt (h.tyX.ne h.tyC (by decide))) (hc.block _ h.tyR.lt (h.tyR.ne h.tyC (by decide))) hc.size hk
theorem onS (h:CnAt f c w) {s:Sc} (hs:ScAt f.S (f.S+1) s w') (hc:Chg f.S w w'):CnAt f { c with sc:=s } w':=by
 have hk:=SpanKept.chg hc h.tyS (by decide);exact ⟨(hc.block _ h.tyC.lt (h.tyC.ne h.tyS (by decide))).trans h.blk,hs,h.tm.keep (hc.block _ h.tyT.lt (h.tyT.ne h.tyS (by decide))),h.cg.keep (hc.block _ h.tyG.lt (h.tyG.ne h.tyS (by decide))),h.bx.keep (hc.block _ h.tyX.lt (h.tyX.ne h.tyS (by decide))) (hc.block _ h.tyR.lt (h.tyR.ne h.tyS (by decide))) hc.size hk,h.gl.below ((ChgF.ofS hc).lows h.hi h.gl.top),h.hi⟩
theorem onT (h:CnAt f c w) {m:Tm} (hs:Tim f.T m w') (hc:Chg f.T w w'):CnAt f { c with tm:=m } w':=by
 have hk:=SpanKept.chg hc h.tyT (by decide);exact ⟨(hc.block _ h.tyC.lt (h.tyC.ne h.tyT (by decide))).trans h.blk,h.sc.keep (hc.block _ h.tyS.lt (h.tyS.ne h.tyT (by decide))) hc.size hk,hs,h.cg.keep (hc.block _ h.tyG.lt (h.tyG.ne h.tyT (by decide))),h.bx.keep (hc.block _ h.tyX.lt (h.tyX.ne h.tyT (by decide))) (hc.block _ h.tyR.lt (h.tyR.ne h.tyT (by decide))) hc.size hk,h.gl.below ((ChgF.ofT hc).lows h.hi h.gl.top),h.hi⟩
theorem onG (h:CnAt f c w) {m:Cg} (hs:Cng f.G m w') (hc:Chg f.G w w'):CnAt f { c with cg:=m } w':=by
 have hk:=SpanKept.chg hc h.tyG (by decide);exact ⟨(hc.block _ h.tyC.lt (h.tyC.ne h.tyG (by decide))).trans h.blk,h.sc.keep (hc.block _ h.tyS.lt (h.tyS.ne h.tyG (by decide))) hc.size hk,h.tm.keep (hc.block _ h.tyT.lt (h.tyT.ne h.tyG (by decide))),hs,h.bx.keep (hc.block _ h.tyX.lt (h.tyX.ne h.tyG (by decide))) (hc.block _ h.tyR.lt (h.tyR.ne h.tyG (by decide))) hc.size hk,h.gl.below ((ChgF.ofG hc).lows h.hi h.gl.top),h.hi⟩
theorem onX (h:CnAt f c w) {b:Bx} (hs:BoxAt f.X f.R 0 b w') (hc:Chg2 f.X f.R w w'):CnAt f { c with bx:=b } w':=by
 have hk:=SpanKept.chg2 hc h.tyX h.tyR (by decide) (by decide);exact ⟨(hc.block _ h.tyC.lt (h.tyC.ne h.tyX (by decide)) (h.tyC.ne h.tyR (by decide))).trans h.blk,h.sc.keep (hc.block _ h.tyS.lt (h.tyS.ne h.tyX (by decide)) (h.tyS.ne h.tyR (by decide))) hc.size hk,h.tm.keep (hc.block _ h.tyT.lt (h.tyT.ne h.tyX (by decide)) (h.tyT.ne h.tyR (by decide))),h.cg.keep (hc.block _ h.tyG.lt (h.tyG.ne h.tyX (by decide)) (h.tyG.ne h.tyR (by decide))),hs,h.gl.below ((ChgF.ofX hc).lows h.hi h.gl.top),h.hi⟩
structure Dis (f g:Fp):Prop where
 C:f.C≠g.C
 S:f.S≠g.S
 T:f.T≠g.T
 G:f.G≠g.G
 X:f.X≠g.X
 R:f.R≠g.R
theorem spanKept (h:CnAt f c w) (hc:ChgF f w w'):SpanKept w w':=fun b hb =>
 hc.block b hb.lt (hb.ne h.tyC (by decide)) (hb.ne h.tyS (by decide)) (hb.ne h.tyT (by decide)) (hb.ne h.tyG (by decide)) (hb.ne h.tyX (by decide)) (hb.ne h.tyR (by decide))
theorem across (h:CnAt f c w) (k:CnAt g d w) (dis:Dis f g) (hc:ChgF g w w'):CnAt f c w' :=
 h.keep (hc.lows k.hi k.gl.top) hc.size (k.spanKept hc)
  (hc.block _ h.tyC.lt dis.C (h.tyC.ne k.tyS (by decide)) (h.tyC.ne k.tyT (by decide)) (h.tyC.ne k.tyG (by decide)) (h.tyC.ne k.tyX (by decide)) (h.tyC.ne k.tyR (by decide)))
  (hc.block _ h.tyS.lt (h.tyS.ne k.tyC (by decide)) dis.S (h.tyS.ne k.tyT (by decide)) (h.tyS.ne k.tyG (by decide)) (h.tyS.ne k.tyX (by decide)) (h.tyS.ne k.tyR (by decide)))
  (hc.block _ h.tyT.lt (h.tyT.ne k.tyC (by decide)) (h.tyT.ne k.tyS (by decide)) dis.T (h.tyT.ne k.tyG (by decide)) (h.tyT.ne k.tyX (by decide)) (h.tyT.ne k.tyR (by decide)))
  (hc.block _ h.tyG.lt (h.tyG.ne k.tyC (by decide)) (h.tyG.ne k.tyS (by decide)) (h.tyG.ne k.tyT (by decide)) dis.G (h.tyG.ne k.tyX (by decide)) (h.tyG.ne k.tyR (by decide)))
  (hc.block _ h.tyX.lt (h.tyX.ne k.tyC (by decide)) (h.tyX.ne k.tyS (by decide)) (h.tyX.ne k.tyT (by decide)) (h.tyX.ne k.tyG (by decide)) dis.X (h.tyX.ne k.tyR (by decide)))
  (hc.block _ h.tyR.lt (h.tyR.ne k.tyC (by decide)) (h.tyR.ne k.tyS (by decide)) (h.tyR.ne k.tyT (by decide)) (h.tyR.ne k.tyG (by decide)) (h.tyR.ne k.tyX (by decide)) dis.R)
end CnAt
end Go.Proofs.YtclkcmidhhfdmaaGreatDoor
