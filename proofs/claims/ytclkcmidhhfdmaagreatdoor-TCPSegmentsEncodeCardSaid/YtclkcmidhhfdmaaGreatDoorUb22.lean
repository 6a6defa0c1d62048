import Derived.Test.YtclkcmidhhfdmaaGreatDoorUb9
import Derived.Test.YtclkcmidhhfdmaaGreatDoorUb16
import Derived.Test.YtclkcmidhhfdmaaGreatDoorUb18
import Derived.Test.YtclkcmidhhfdmaaGreatDoorUb19
import Derived.Test.YtclkcmidhhfdmaaGreatDoorUb20
import Derived.Test.YtclkcmidhhfdmaaGreatDoorUb21
import Derived.LaidSub
import Derived.Stop.LaidErr
import Derived.LaidLaws
namespace Go.Proofs.YtclkcmidhhfdmaaGreatDoor
open Lib (hid)
section
open Go.RowKit Go.Shelf
def aE (w w':World):Prop:=∀b,cu w b 92->w'.heap[b]? =w.heap[b]?
theorem aE.refl (w:World):aE w w:=fun _ _=>rfl
theorem aE.below {w w':World}(h:Below w.heap.size w w'):aE w w':=fun b hb=>h.block b hb.lt
theorem aE.chg {C:Nat}{t:TypeId}{w w':World}(h:Chg C w w')(hC:cu w C t)(ht:t≠92):aE w w':=fun b hb=>h.block b hb.lt (hb.ne hC (Ne.symm ht))
theorem aE.chg2 {X R:Nat}{t u:TypeId}{w w':World}(h:Chg2 X R w w')(hX:cu w X t)(hR:cu w R u)(ht:t≠92)(hu:u≠92):aE w w':=fun b hb=>h.block b hb.lt (hb.ne hX (Ne.symm ht)) (hb.ne hR (Ne.symm hu))
theorem SpAt.keep {L:List Sp}{a:Option Addr}{w w':World}(h:SpAt w w.heap.size a L)(hty:0<L.length->∀ad,a=some ad->cu w ad.block 92)(hs:w.heap.size<=w'.heap.size)(hk:aE w w'):SpAt w' w'.heap.size a L:=by
 refine⟨h.small,fun hl=> ?_⟩;obtain⟨b,o,ha,hb,hcs⟩:=h.cells hl;have e:=hk b (hty hl _ ha);exact⟨b,o,ha,Nat.lt_of_lt_of_le hb hs,fun i hi=>⟨(World.cell?_of_block (a:=⟨b,_,none⟩) e).trans (hcs i hi).1,(World.cell?_of_block (a:=⟨b,_,none⟩) e).trans (hcs i hi).2⟩⟩
theorem ay.keep {lb:Nat}{L:List Sp}{a:Option Addr}{cap:Nat}{w w':World}(h:ay lb L a cap w)(hs:w.heap.size<=w'.heap.size)(hk:aE w w'):ay lb L a cap w' :=
 ⟨h.1.keep h.2.2.2.2 hs hk,h.2.1,h.2.2.1,h.2.2.2.1,fun hl ad e=>(h.2.2.2.2 hl ad e).of (hk _ (h.2.2.2.2 hl ad e))⟩
theorem bD.keep {B lb:Nat}{s:Sc}{w w':World}(h:bD B lb s w)(hb:w'.heap[B]? =w.heap[B]?)(hs:w.heap.size<=w'.heap.size)(hk:aE w w'):bD B lb s w':=by
 obtain⟨h1,⟨h2,h3⟩,sa,sc,ga,gc,hcs,ls,lg⟩:=h;exact⟨h1,⟨Nat.le_trans h2 hs,Nat.le_trans h3 hs⟩,sa,sc,ga,gc,hb.trans hcs,ls.keep hs hk,lg.keep hs hk⟩
theorem a8.keep {B R lb:Nat}{b:Bx}{w w':World}(h:a8 B R lb b w)(hB:w'.heap[B]? =w.heap[B]?)(hR:w'.heap[R]? =w.heap[R]?)(hs:w.heap.size<=w'.heap.size)(hk:aE w w'):a8 B R lb b w':=by
 obtain⟨h0,hr,a,cap,hbk,h1,h2,h3⟩:=h;exact⟨h0,hR.trans hr,a,cap,hB.trans hbk,⟨h1.toSpAt.keep h1.ty hs hk,fun hp ad e=>(h1.ty hp ad e).of (hk _ (h1.ty hp ad e))⟩,h2,h3⟩
theorem eT.keep {B:Nat}{m:Tm}{w w':World}(h:eT B m w)(hb:w'.heap[B]? =w.heap[B]?):eT B m w':=by
 obtain⟨t,ht⟩:=h;exact⟨t,hb.trans ht⟩
theorem dj.keep {B:Nat}{m:Cg}{w w':World}(h:dj B m w)(hb:w'.heap[B]? =w.heap[B]?):dj B m w':=by
 obtain⟨t,ht⟩:=h;exact⟨t,hb.trans ht⟩
theorem bQ.tyb {B lbs lbg:Nat}{s:Sc}{w:World}(h:bQ B lbs lbg s w):cu w B 171:=by
 obtain⟨-,-,sa,sc,ga,gc,hcs,-⟩:=h;exact⟨_,_,hcs⟩
theorem a8.tyb {B R lb:Nat}{b:Bx}{w:World}(h:a8 B R lb b w):cu w B 156/\cu w R 5:=by
 obtain⟨h0,hr,a,cap,hbk,-⟩:=h;exact⟨⟨_,_,hbk⟩,⟨_,_,hr⟩⟩
theorem eT.tyb {B:Nat}{m:Tm}{w:World}(h:eT B m w):cu w B 147:=by
 obtain⟨⟨t,rfl⟩,ht⟩:=h;exact⟨_,_,ht⟩
theorem dj.tyb {B:Nat}{m:Cg}{w:World}(h:dj B m w):cu w B 168:=by
 obtain⟨⟨t,rfl⟩,ht⟩:=h;exact⟨_,_,ht⟩
structure Fp where
 C:Nat
 S:Nat
 T:Nat
 G:Nat
 X:Nat
 R:Nat
structure Fp.Hi (f:Fp)(N:Nat):Prop where
 C:N<=f.C
 S:N<=f.S
 T:N<=f.T
 G:N<=f.G
 X:N<=f.X
 R:N<=f.R
def dZ:Nat:=0+1+1
structure Gl (w:World):Prop where
 tri:eU w
 err:∃a,ky a w
 top:dZ<=w.heap.size
theorem Gl.below {w w':World}(h:Gl w)(hb:Below dZ w w'):Gl w':=by
 obtain⟨⟨t,fr,h1⟩,⟨a,h2⟩,h3⟩:=h;exact⟨⟨t,fr,by rw[hb.block _ (by decide)];exact h1⟩,⟨a,h2.below hb (by decide)⟩,Nat.le_trans h3 hb.size⟩
def eV (f:Fp)(c:Cn):Array Value:= #[.pointer (some ⟨f.S,0,none⟩),.pointer (some ⟨f.T,0,none⟩),.pointer (some ⟨f.G,0,none⟩),.string ⟨c.held.toArray⟩,.int .i64 c.base,.int .i64 c.limit,.int .i64 c.largest,.int .i64 c.mss,.bool c.sacks,.bool c.shut,.int .i64 c.mark,.pointer (some ⟨f.X,0,none⟩),.int .i64 c.irs,.int .i64 c.room,.int .i64 c.ann,.bool c.ended,.int .i64 c.fend,.bool c.over,.int .i64 c.pend,.bool c.ackT.set,.int .i64 c.ackT.since,.int .i64 c.ackT.ticks,.int .i64 c.cf.fp,.int .i64 c.cf.tp,.int .i64 c.cf.iss,.int .i64 c.cf.mss,.int .i64 c.cf.room,.int .i64 c.cf.keep,.int .i64 c.st,.int .i64 c.err,.bool c.dl.set,.int .i64 c.dl.since,.int .i64 c.dl.ticks,.int .i64 c.tries,.bool c.per.set,.int .i64 c.per.since,.int .i64 c.per.ticks]
structure CnAt (f:Fp)(c:Cn)(w:World):Prop where
 blk:w.heap[f.C]? =some (.cells (eV f c) 104 (0,0))
 sc:bD f.S (f.S+1) c.sc w
 tm:eT f.T c.tm w
 cg:dj f.G c.cg w
 bx:a8 f.X f.R 0 c.bx w
 gl:Gl w
 hi:f.Hi dZ
structure ChgF (f:Fp)(w w':World):Prop where
 os:w'.os=w.os
 tape:w'.tape=w.tape
 output:w'.output=w.output
 size:w.heap.size<=w'.heap.size
 block:∀k,k<w.heap.size->k≠f.C->k≠f.S->k≠f.T->k≠f.G->k≠f.X->k≠f.R->w'.heap[k]? =w.heap[k]?
theorem ChgF.refl (f:Fp)(w:World):ChgF f w w:=⟨rfl,rfl,rfl,Nat.le_refl _,fun _ _ _ _ _ _ _ _=>rfl⟩
theorem ChgF.trans {f:Fp}{a b c:World}(h:ChgF f a b)(k:ChgF f b c):ChgF f a c :=
 ⟨k.os.trans h.os,k.tape.trans h.tape,k.output.trans h.output,Nat.le_trans h.size k.size,fun i hi h1 h2 h3 h4 h5 h6=>(k.block i (Nat.lt_of_lt_of_le hi h.size) h1 h2 h3 h4 h5 h6).trans (h.block i hi h1 h2 h3 h4 h5 h6)⟩
theorem ChgF.trans' {f g:Fp}{a b c:World}(h:ChgF f a b)(k:ChgF g b c)(e1:g.C=f.C)(e2:g.S=f.S)(e3:g.T=f.T)(e4:g.G=f.G\/a.heap.size<=g.G)(e5:g.X=f.X)(e6:g.R=f.R):ChgF f a c :=
 ⟨k.os.trans h.os,k.tape.trans h.tape,k.output.trans h.output,Nat.le_trans h.size k.size,fun i hi h1 h2 h3 h4 h5 h6=>(k.block i (Nat.lt_of_lt_of_le hi h.size) (by omega) (by omega) (by omega) (by omega) (by omega) (by omega)).trans (h.block i hi h1 h2 h3 h4 h5 h6)⟩
theorem ChgF.ofB {f:Fp}{w w':World}(h:Below w.heap.size w w'):ChgF f w w':=⟨h.os,h.tape,h.output,h.size,fun k hk _ _ _ _ _ _=>h.block k hk⟩
theorem ChgF.ofC {f:Fp}{w w':World}(h:Chg f.C w w'):ChgF f w w':=⟨h.os,h.tape,h.output,h.size,fun k hk h1 _ _ _ _ _=>h.block k hk h1⟩
theorem ChgF.ofS {f:Fp}{w w':World}(h:Chg f.S w w'):ChgF f w w':=⟨h.os,h.tape,h.output,h.size,fun k hk _ h1 _ _ _ _=>h.block k hk h1⟩
theorem ChgF.ofT {f:Fp}{w w':World}(h:Chg f.T w w'):ChgF f w w':=⟨h.os,h.tape,h.output,h.size,fun k hk _ _ h1 _ _ _=>h.block k hk h1⟩
theorem ChgF.ofG {f:Fp}{w w':World}(h:Chg f.G w w'):ChgF f w w':=⟨h.os,h.tape,h.output,h.size,fun k hk _ _ _ h1 _ _=>h.block k hk h1⟩
theorem ChgF.ofX {f:Fp}{w w':World}(h:Chg2 f.X f.R w w'):ChgF f w w':=⟨h.os,h.tape,h.output,h.size,fun k hk _ _ _ _ h1 h2=>h.block k hk h1 h2⟩
theorem ChgF.lows {f:Fp}{w w':World}(h:ChgF f w w')(hf:f.Hi dZ)(ht:dZ<=w.heap.size):Below dZ w w' :=
 ⟨h.os,h.tape,h.output,h.size,fun k hk=>h.block k (by omega) (by have:=hf.C;omega) (by have:=hf.S;omega) (by have:=hf.T;omega) (by have:=hf.G;omega) (by have:=hf.X;omega) (by have:=hf.R;omega)⟩
theorem ChgF.below {f:Fp}{N:Nat}{w w':World}(h:ChgF f w w')(hs:N<=w.heap.size)(h1:N<=f.C)(h2:N<=f.S)(h3:N<=f.T)(h4:N<=f.G)(h5:N<=f.X)(h6:N<=f.R):Below N w w' :=
 ⟨h.os,h.tape,h.output,h.size,fun k hk=>h.block k (by omega) (by omega) (by omega) (by omega) (by omega) (by omega) (by omega)⟩
namespace CnAt
variable {f g : Fp} {c d : Cn} {w w' : World}
theorem tyC (h:CnAt f c w):cu w f.C 104:=⟨_,_,h.blk⟩
theorem tyS (h:CnAt f c w):cu w f.S 171:=h.sc.tyb
theorem tyT (h:CnAt f c w):cu w f.T 147:=h.tm.tyb
theorem tyG (h:CnAt f c w):cu w f.G 168:=h.cg.tyb
theorem tyX (h:CnAt f c w):cu w f.X 156:=h.bx.tyb.1
theorem tyR (h:CnAt f c w):cu w f.R 5:=h.bx.tyb.2
theorem lt (h:CnAt f c w):f.C<w.heap.size:=h.tyC.lt
theorem cell (h:CnAt f c w)(i:Nat)(v:Value)(hv:(eV f c)[i]? =some v):w.cell? ⟨f.C,i,none⟩=some v:=by rw[cell_of_row _ _ _ _ _ _ h.blk];exact hv
theorem free (h:CnAt f c w)(i:Nat):w.frozen? ⟨f.C,i,none⟩=false:=frozen_of_row _ _ _ _ _ h.blk
theorem keep (h:CnAt f c w)(hl:Below dZ w w')(hs:w.heap.size<=w'.heap.size)(hk:aE w w')(h1:w'.heap[f.C]? =w.heap[f.C]?)(h2:w'.heap[f.S]? =w.heap[f.S]?)(h3:w'.heap[f.T]? =w.heap[f.T]?)(h4:w'.heap[f.G]? =w.heap[f.G]?)(h5:w'.heap[f.X]? =w.heap[f.X]?)(h6:w'.heap[f.R]? =w.heap[f.R]?):CnAt f c w' :=
 ⟨h1.trans h.blk,h.sc.keep h2 hs hk,h.tm.keep h3,h.cg.keep h4,h.bx.keep h5 h6 hs hk,h.gl.below hl,h.hi⟩
theorem below (h:CnAt f c w)(hb:Below w.heap.size w w'):CnAt f c w' :=
 h.keep (hb.mono h.gl.top) hb.size (.below hb) (hb.block _ h.tyC.lt) (hb.block _ h.tyS.lt) (hb.block _ h.tyT.lt) (hb.block _ h.tyG.lt) (hb.block _ h.tyX.lt) (hb.block _ h.tyR.lt)
theorem alloc (h:CnAt f c w)(o:Obj):CnAt f c (w.alloc o):=h.below ((Below.refl _ w).alloc (Nat.le_refl _) o)
theorem drew (h:CnAt f c w):CnAt f c w.drew:=h.below (Below.refl _ w).drew
theorem set (h:CnAt f c w)(i:Nat)(v:Value)(d:Cn)(he:(eV f c).setIfInBounds i v=eV f d)(e1:d.sc=c.sc)(e2:d.tm=c.tm)(e3:d.cg=c.cg)(e4:d.bx=c.bx):CnAt f d (w.setCell ⟨f.C,i,none⟩ v):=by
 have hc:Chg f.C w (w.setCell ⟨f.C,i,none⟩ v):=(Chg.refl _ _).setCell i v;have hk:=aE.chg hc h.tyC (by decide);refine⟨by rw[heap_setCell_same _ _ _ _ _ _ h.blk,he],?_,?_,?_,?_,h.gl.below ((ChgF.ofC hc).lows h.hi h.gl.top),h.hi⟩
 ·rw[e1];exact h.sc.keep (hc.block _ h.tyS.lt (h.tyS.ne h.tyC (by decide))) hc.size hk
 ·rw[e2];exact h.tm.keep (hc.block _ h.tyT.lt (h.tyT.ne h.tyC (by decide)))
 ·rw[e3];exact h.cg.keep (hc.block _ h.tyG.lt (h.tyG.ne h.tyC (by decide)))
 rw[e4];exact h.bx.keep (hc.block _ h.tyX.lt (h.tyX.ne h.tyC (by decide))) (hc.block _ h.tyR.lt (h.tyR.ne h.tyC (by decide))) hc.size hk
theorem onS (h:CnAt f c w){s:Sc}(hs:bD f.S (f.S+1) s w')(hc:Chg f.S w w'):CnAt f { c with sc:=s } w':=by
 have hk:=aE.chg hc h.tyS (by decide);exact⟨(hc.block _ h.tyC.lt (h.tyC.ne h.tyS (by decide))).trans h.blk,hs,h.tm.keep (hc.block _ h.tyT.lt (h.tyT.ne h.tyS (by decide))),h.cg.keep (hc.block _ h.tyG.lt (h.tyG.ne h.tyS (by decide))),h.bx.keep (hc.block _ h.tyX.lt (h.tyX.ne h.tyS (by decide))) (hc.block _ h.tyR.lt (h.tyR.ne h.tyS (by decide))) hc.size hk,h.gl.below ((ChgF.ofS hc).lows h.hi h.gl.top),h.hi⟩
theorem onT (h:CnAt f c w){m:Tm}(hs:eT f.T m w')(hc:Chg f.T w w'):CnAt f { c with tm:=m } w':=by
 have hk:=aE.chg hc h.tyT (by decide);exact⟨(hc.block _ h.tyC.lt (h.tyC.ne h.tyT (by decide))).trans h.blk,h.sc.keep (hc.block _ h.tyS.lt (h.tyS.ne h.tyT (by decide))) hc.size hk,hs,h.cg.keep (hc.block _ h.tyG.lt (h.tyG.ne h.tyT (by decide))),h.bx.keep (hc.block _ h.tyX.lt (h.tyX.ne h.tyT (by decide))) (hc.block _ h.tyR.lt (h.tyR.ne h.tyT (by decide))) hc.size hk,h.gl.below ((ChgF.ofT hc).lows h.hi h.gl.top),h.hi⟩
theorem onG (h:CnAt f c w){m:Cg}(hs:dj f.G m w')(hc:Chg f.G w w'):CnAt f { c with cg:=m } w':=by
 have hk:=aE.chg hc h.tyG (by decide);exact⟨(hc.block _ h.tyC.lt (h.tyC.ne h.tyG (by decide))).trans h.blk,h.sc.keep (hc.block _ h.tyS.lt (h.tyS.ne h.tyG (by decide))) hc.size hk,h.tm.keep (hc.block _ h.tyT.lt (h.tyT.ne h.tyG (by decide))),hs,h.bx.keep (hc.block _ h.tyX.lt (h.tyX.ne h.tyG (by decide))) (hc.block _ h.tyR.lt (h.tyR.ne h.tyG (by decide))) hc.size hk,h.gl.below ((ChgF.ofG hc).lows h.hi h.gl.top),h.hi⟩
theorem onX (h:CnAt f c w){b:Bx}(hs:a8 f.X f.R 0 b w')(hc:Chg2 f.X f.R w w'):CnAt f { c with bx:=b } w':=by
 have hk:=aE.chg2 hc h.tyX h.tyR (by decide) (by decide);exact⟨(hc.block _ h.tyC.lt (h.tyC.ne h.tyX (by decide)) (h.tyC.ne h.tyR (by decide))).trans h.blk,h.sc.keep (hc.block _ h.tyS.lt (h.tyS.ne h.tyX (by decide)) (h.tyS.ne h.tyR (by decide))) hc.size hk,h.tm.keep (hc.block _ h.tyT.lt (h.tyT.ne h.tyX (by decide)) (h.tyT.ne h.tyR (by decide))),h.cg.keep (hc.block _ h.tyG.lt (h.tyG.ne h.tyX (by decide)) (h.tyG.ne h.tyR (by decide))),hs,h.gl.below ((ChgF.ofX hc).lows h.hi h.gl.top),h.hi⟩
structure Dis (f g:Fp):Prop where
 C:f.C≠g.C
 S:f.S≠g.S
 T:f.T≠g.T
 G:f.G≠g.G
 X:f.X≠g.X
 R:f.R≠g.R
theorem spanKept (h:CnAt f c w)(hc:ChgF f w w'):aE w w':=fun b hb =>
 hc.block b hb.lt (hb.ne h.tyC (by decide)) (hb.ne h.tyS (by decide)) (hb.ne h.tyT (by decide)) (hb.ne h.tyG (by decide)) (hb.ne h.tyX (by decide)) (hb.ne h.tyR (by decide))
theorem across (h:CnAt f c w)(k:CnAt g d w)(dis:Dis f g)(hc:ChgF g w w'):CnAt f c w' :=
 h.keep (hc.lows k.hi k.gl.top) hc.size (k.spanKept hc)
  (hc.block _ h.tyC.lt dis.C (h.tyC.ne k.tyS (by decide)) (h.tyC.ne k.tyT (by decide)) (h.tyC.ne k.tyG (by decide)) (h.tyC.ne k.tyX (by decide)) (h.tyC.ne k.tyR (by decide)))
  (hc.block _ h.tyS.lt (h.tyS.ne k.tyC (by decide)) dis.S (h.tyS.ne k.tyT (by decide)) (h.tyS.ne k.tyG (by decide)) (h.tyS.ne k.tyX (by decide)) (h.tyS.ne k.tyR (by decide)))
  (hc.block _ h.tyT.lt (h.tyT.ne k.tyC (by decide)) (h.tyT.ne k.tyS (by decide)) dis.T (h.tyT.ne k.tyG (by decide)) (h.tyT.ne k.tyX (by decide)) (h.tyT.ne k.tyR (by decide)))
  (hc.block _ h.tyG.lt (h.tyG.ne k.tyC (by decide)) (h.tyG.ne k.tyS (by decide)) (h.tyG.ne k.tyT (by decide)) dis.G (h.tyG.ne k.tyX (by decide)) (h.tyG.ne k.tyR (by decide)))
  (hc.block _ h.tyX.lt (h.tyX.ne k.tyC (by decide)) (h.tyX.ne k.tyS (by decide)) (h.tyX.ne k.tyT (by decide)) (h.tyX.ne k.tyG (by decide)) dis.X (h.tyX.ne k.tyR (by decide)))
  (hc.block _ h.tyR.lt (h.tyR.ne k.tyC (by decide)) (h.tyR.ne k.tyS (by decide)) (h.tyR.ne k.tyT (by decide)) (h.tyR.ne k.tyG (by decide)) (h.tyR.ne k.tyX (by decide)) dis.R)
end CnAt
end
section
open Go.RowKit Go.Shelf
theorem aZ {w w1 w2:World}(h:Below w.heap.size w w1)(k:Below w1.heap.size w1 w2):Below w.heap.size w w2:=h.trans (k.mono h.size)
theorem tX (l:List UInt8)(a b:Nat):(⟨l.toArray⟩:ByteArray).extract a b=⟨((l.drop a).take (b-a)).toArray⟩:=by
 apply ByteArray.ext
 rw[ByteArray.data_extract]
 simp
theorem jZ (l:List UInt8)(a:Nat):(⟨l.toArray⟩:ByteArray).extract a l.length=⟨(l.drop a).toArray⟩:=by
 rw[tX,List.take_of_length_le (by rw[List.length_drop];omega)]
theorem dB (f:Fp)(c:Cn)(w:World)(h:CnAt f c w) :
  Calls Tryz.prog 111 #[f.C] w fun e w'=>e= .returned c.una/\Below w.heap.size w w':=by
 have c0:=h.cell 0 _ rfl;have hs:=hid h.sc
 go_enter Tryz.func111,Tryz.ntmps111
 go_wp2_with fail;refine(qp _ _ _ _ hs.out).mono ?_;rintro e w' ⟨rfl,hb⟩;go_wp2;go_ret;exact⟨rfl,hb⟩
theorem aU (f:Fp)(c:Cn)(w:World)(h:CnAt f c w) :
  Calls Tryz.prog 86 #[f.C] w fun e w'=>e= .returned c.next/\Below w.heap.size w w':=by
 have c0:=h.cell 0 _ rfl;have hs:=hid h.sc
 go_enter Tryz.func86,Tryz.ntmps86
 go_wp2_with fail;refine(ow _ _ _ _ hs.out).mono ?_;rintro e w' ⟨rfl,hb⟩;go_wp2;go_ret;exact⟨rfl,hb⟩
theorem cr (f:Fp)(c:Cn)(w:World)(h:CnAt f c w)(ok:c.sc.Ok) :
  Calls Tryz.prog 84 #[f.C] w fun e w'=>e= .returned c.flight/\Below w.heap.size w w':=by
 have h1:0<=c.una:=ok.u0;have h2:c.una<=c.next:=ok.un;have h3:c.next<=1099511627776:=ok.n40;have hs:=hid h;clear h
 go_enter Tryz.func84,Tryz.ntmps84
 go_wp2_with fail;refine(aU f c _ hs.out).mono ?_;rintro e w1⟨rfl,hb⟩;go_wp2_with fail;refine(dB f c _ (hs.out.below hb)).mono ?_;rintro e w2⟨rfl,hb2⟩;have HB:=hid (aZ hb hb2);clear hb hb2;go_wp2;go_ret;exact⟨rfl,HB.o⟩
theorem dv (f:Fp)(c:Cn)(w:World)(h:CnAt f c w)(hb: -1099511627776<=c.base/\c.base<=1099511627776)(hl:c.held.length<=1099511627776) :
  Calls Tryz.prog 157 #[f.C] w fun e w'=>e= .returned c.last/\w'=w.drew:=by
 have c3:=h.cell 3 (.string ⟨c.held.toArray⟩) rfl;have c4:=h.cell 4 c.base rfl;have hz:(⟨c.held.toArray⟩:ByteArray).size=c.held.length:=by simp[ByteArray.size]
 go_enter Tryz.func157,Tryz.ntmps157
 go_wp2
 go_region
 all_goals
  go_wp2
  go_ret;exact⟨rfl,rfl⟩
theorem eW (f:Fp)(c:Cn)(w:World)(h:CnAt f c w)(ok:c.sc.Ok)(hb: -1099511627776<=c.base/\c.base<=1099511627776)(hl:c.held.length<=1099511627776) :
  Calls Tryz.prog 115 #[f.C] w fun e w'=>e= .returned c.unsent/\Below w.heap.size w w':=by
 have h1:0<=c.next:=Int.le_trans ok.u0 ok.un;have h3:c.next<=1099511627776:=ok.n40;have h4: -1099511627776<=c.last/\c.last<=2199023255552:=by unfold Cn.last;omega
 have hs:=hid h;clear h
 go_enter Tryz.func115,Tryz.ntmps115
 go_wp2_with fail;refine(dv f c _ hs.out hb hl).mono ?_;rintro e w1⟨rfl,hw⟩;have hb1:Below w.heap.size w w1:=by rw[hw];exact(Below.refl _ w).drew
 clear hw;go_wp2_with fail;refine(aU f c _ (hs.out.below hb1)).mono ?_;rintro e w2⟨rfl,hb2⟩;have HB:=hid (aZ hb1 hb2);clear hb1 hb2;go_wp2;go_ret;exact⟨rfl,HB.o⟩
theorem rD (f:Fp)(c:Cn)(u:Int)(w:World)(h:CnAt f c w)(hb: -1099511627776<=c.base/\c.base<=1099511627776)(hl:c.held.length<=1099511627776)(hu: -1099511627776<=u/\u<=1099511627776) :
  Calls Tryz.prog 160 #[f.C,u] w fun e w'=>e= .returned (.tuple #[])/\CnAt f (c.drop u) w'/\ChgF f w w':=by
 have c3:=h.cell 3 (.string ⟨c.held.toArray⟩) rfl;have c4:=h.cell 4 c.base rfl;have f3:=h.free 3;have f4:=h.free 4;have hz:(⟨c.held.toArray⟩:ByteArray).size=c.held.length:=by simp[ByteArray.size]
 have hs:=hid h;clear h
 go_enter Tryz.func160,Tryz.ntmps160
 go_wp2
 go_region
 all_goals
  go_wp2
  go_end0
  rw[jZ];exact⟨rfl,((hs.out.set 3 _ { c with held:=c.held.drop (eP c.held c.base u).toNat } rfl rfl rfl rfl rfl).set 4 _ (c.drop u) rfl rfl rfl rfl rfl).drew,.ofC (((Chg.refl _ _).setCell 3 _).setCell 4 _).drew⟩
theorem gp (f:Fp)(c:Cn)(a v:Int)(w:World)(h:CnAt f c w)(ha: -1099511627776<=a/\a<=1099511627776)(hv:0<=v/\v<=65535) :
  Calls Tryz.prog 137 #[f.C,a,v] w fun e w'=>e= .returned (.tuple #[])/\CnAt f (c.announce a v) w'/\ChgF f w w':=by
 have c5:=h.cell 5 c.limit rfl;have c6:=h.cell 6 c.largest rfl;have f5:=h.free 5;have f6:=h.free 6;have hs:=hid h;clear h
 go_enter Tryz.func137,Tryz.ntmps137
 go_wp2
 go_end0
 refine⟨rfl,(hs.out.set 5 _ { c with limit:=max c.limit (a+v) } rfl rfl rfl rfl rfl).set 6 _ (c.announce a v) rfl rfl rfl rfl rfl,.ofC (((Chg.refl _ _).setCell 5 _).setCell 6 _)⟩
end
section
open Go.RowKit Go.Shelf
theorem Below.drewN' (w:World)(n:Nat):Below w.heap.size w (w.drewN n):=⟨rfl,rfl,rfl,Nat.le_refl _,fun _ _=>rfl⟩
theorem a8.drewN {B R lb:Nat}{b:Bx}{w:World}(h:a8 B R lb b w)(n:Nat):a8 B R lb b (w.drewN n):=h.below (Below.drewN' w n)
theorem CnAt.drewN {f:Fp}{c:Cn}{w:World}(h:CnAt f c w)(n:Nat):CnAt f c (w.drewN n):=h.below (Below.drewN' w n)
theorem xz {P:Program}{f:FuncId}{args:Array Value}{w:World}{n:Nat}{v:Value}
  (h:Calls P f args (w.drewN n) fun e w'=>e= .returned v/\w'=(w.drewN n).drew.drew):Calls P f args (w.drewN n) fun e w''=>e= .returned v/\∃m,w''=w.drewN m :=
 h.mono fun _ _ ⟨he,hm⟩=>⟨he,n+2,hm⟩
theorem nb (f:Fp)(c:Cn)(n:Int)(w:World)(h:CnAt f c w) :
  Calls Tryz.prog 62 #[.pointer (some ⟨f.C,11,none⟩),n] w fun e w'=>e= .returned (c.offset n)/\Below w.heap.size w w':=by
 have c12:=h.cell 12 c.irs rfl
 go_enter Tryz.func62,Tryz.ntmps62
 go_wp2_with fail;refine(fU _ _ _).mono ?_;rintro e w1⟨rfl,rfl⟩;go_wp2_with fail;refine(dA _ _ _).mono ?_;rintro e w1⟨rfl,rfl⟩;go_wp2;go_ret;exact⟨rfl,Below.refl _ _⟩
theorem nc (f:Fp)(c:Cn)(n:Int)(w:World)(h:CnAt f c w)(hn: -1099511627776<=n/\n<=4398046511104) :
  Calls Tryz.prog 144 #[.pointer (some ⟨f.C,11,none⟩),n] w fun e w'=>e= .returned (c.number n)/\Below w.heap.size w w':=by
 have c12:=h.cell 12 c.irs rfl
 go_enter Tryz.func144,Tryz.ntmps144
 go_wp2_with fail;refine(fU _ _ _).mono ?_;rintro e w1⟨rfl,rfl⟩;go_wp2;go_ret;exact⟨rfl,Below.refl _ _⟩
theorem bw (f:Fp)(c:Cn)(w:World)(h:CnAt f c w) :
  Calls Tryz.prog 81 #[.pointer (some ⟨f.C,11,none⟩)] w fun e w'=>e= .returned c.reached/\Below w.heap.size w w':=by
 have c11:=h.cell 11 f.X rfl;have c15:=h.cell 15 c.ended rfl;have c16:=h.cell 16 c.fend rfl;have hx:=hid h.bx;by_cases he:c.ended=true
 ·have HR:=hid (show c.reached=(c.bx.nx==c.fend) by unfold Cn.reached;rw[he,Bool.true_and];rfl);rw[he]at c15;rw[HR.o];clear he HR
  go_enter Tryz.func81,Tryz.ntmps81
  go_wp2_with fail
  go_quiet ((go_at_call 110;exact qs (cH _ _ _ _ _ (hx.out.drewN _))))
  all_goals
   go_wp2
   go_ret;exact⟨rfl,Below.drewN' _ _⟩
 have he':c.ended=false:=by simpa using he
 have HR:=hid (show c.reached=false by unfold Cn.reached;rw[he',Bool.false_and]);rw[he']at c15;rw[HR.o];clear he he' HR
 go_enter Tryz.func81,Tryz.ntmps81
 go_wp2_with fail
 go_quiet (fail)
 all_goals
  go_wp2
  go_ret;exact⟨rfl,Below.drewN' _ _⟩
theorem br (f:Fp)(c:Cn)(w:World)(h:CnAt f c w) :
  Calls Tryz.prog 67 #[.pointer (some ⟨f.C,11,none⟩)] w fun e w'=>e= .returned (.tuple #[])/\CnAt f c.ackNow w'/\ChgF f w w':=by
 have a2:=h.free 18;have c18:=h.cell 18 c.pend rfl
 go_enter Tryz.func67,Tryz.ntmps67
 go_wp2
 go_end0
 exact⟨rfl,h.set 18 _ c.ackNow rfl rfl rfl rfl rfl,.ofC ((Chg.refl _ _).setCell 18 _)⟩
theorem eo (f:Fp)(c:Cn)(w:World)(h:CnAt f c w)(ok:c.bx.Ok) :
  Calls Tryz.prog 64 #[.pointer (some ⟨f.C,11,none⟩)] w fun e w'=>e= .returned c.expected/\Below w.heap.size w w':=by
 have c11:=h.cell 11 f.X rfl;have h1:=ok.rd0;have h2:=ok.rdnx;have h3:=ok.nxend;have h4:=ok.small;have hs:=hid h;by_cases hr:c.reached=true
 ·have HR:=hid (show c.expected=c.bx.nx+1 by unfold Cn.expected;rw[if_pos hr]);rw[HR.o];clear HR
  go_enter Tryz.func64,Tryz.ntmps64
  go_wp2_with fail;refine(bw f c _ hs.out).mono ?_;rintro e w1⟨rfl,hb⟩;rw[hr];have hs1:=hid (hs.out.below hb);have c11:=hs1.out.cell 11 f.X rfl;have hx:=hid hs1.out.bx;have hb:=hid hb;clear hr;go_wp2_with fail;refine(cH _ _ _ _ _ hx.out).mono ?_;rintro e w1⟨rfl,rfl⟩;go_wp2;go_ret;exact⟨rfl,hb.out⟩
 have hr':c.reached=false:=by simpa using hr
 have HR:=hid (show c.expected=c.bx.nx by unfold Cn.expected;rw[if_neg hr]);rw[HR.o];clear HR hr
 go_enter Tryz.func64,Tryz.ntmps64
 go_wp2_with fail;refine(bw f c _ hs.out).mono ?_;rintro e w1⟨rfl,hb⟩;rw[hr'];have hs1:=hid (hs.out.below hb);have c11:=hs1.out.cell 11 f.X rfl;have hx:=hid hs1.out.bx;have hb:=hid hb;clear hr';go_wp2_with fail;refine(cH _ _ _ _ _ hx.out).mono ?_;rintro e w1⟨rfl,rfl⟩;go_wp2;go_ret;exact⟨rfl,hb.out⟩
theorem rE {a b:Bool}(h:a=b):Ending.returned a= .returned b:=by rw[h]
theorem xS {a b:Int}{c d:Bool}(h:a=b)(k:c=d):Ending.returned (.tuple #[a,c])= .returned (.tuple #[b,d]):=by rw[h,k]
theorem fd (f:Fp)(c:Cn)(m:Int)(w:World)(h:CnAt f c w)(ok:c.bx.Ok)(ha: -1099511627776<=c.ann/\c.ann<=2199023255552)(hr:0<=c.room/\c.room<=8192) :
  Calls Tryz.prog 123 #[.pointer (some ⟨f.C,11,none⟩),m] w fun e w'=>e= .returned (.tuple #[c.most,(c.growsB m)])/\Below w.heap.size w w':=by
 have c11:=h.cell 11 f.X rfl;have c13:=h.cell 13 c.room rfl;have c14:=h.cell 14 c.ann rfl;have h1:=ok.rd0;have h2:=ok.rdnx;have h3:=ok.nxend;have h4:=ok.small;have hs:=hid h;have HO:=hid ok;have HM:=hid (show c.most=c.bx.rd+c.bx.ring.length from rfl);by_cases hg:c.ann<c.bx.nx+(c.bx.rd+c.bx.ring.length-c.bx.nx)
 focus
  go_enter Tryz.func123,Tryz.ntmps123
 rotate_left 1
 focus
  have hg':decide (c.ann<c.bx.nx+(c.bx.rd+c.bx.ring.length-c.bx.nx))=false:=decide_eq_false hg
  go_enter Tryz.func123,Tryz.ntmps123
 all_goals
  go_wp2_with fail
  go_quiet ((first | (go_at_call 110;exact qs (cH _ _ _ _ _ (hs.out.bx.drewN _))) | (go_at_call 170;exact xz (sR _ _ _ _ _ (hs.out.bx.drewN _) HO.o))))
  all_goals
   go_wp2
   go_quiet (fail)
   all_goals
    go_wp2
    go_ret2
    refine⟨xS (by rw[HM.o];omega) ?_,⟨rfl,rfl,rfl,Nat.le_refl _,fun _ _=>rfl⟩⟩;unfold Cn.growsB;rw[HM.o]
    first | exact decide_eq_decide.2 (by omega) | exact(decide_eq_false (by omega)).symm
theorem mP (f:Fp)(c:Cn)(off n:Int)(w:World)(h:CnAt f c w)(ok:c.bx.Ok)(ho: -2147483648<=off/\off<=2147483647)(hn:0<=n/\n<=2048)(ha: -1099511627776<=c.ann/\c.ann<=2199023255552) :
  Calls Tryz.prog 63 #[.pointer (some ⟨f.C,11,none⟩),off,n] w fun e w'=>e= .returned (c.accepts off n)/\Below w.heap.size w w':=by
 have h1:=ok.rd0;have h2:=ok.rdnx;have h3:=ok.nxend;have h4:=ok.small;have hs:=hid h;have HO:=hid ok;have hE:c.bx.nx<=c.expected/\c.expected<=c.bx.nx+1:=by unfold Cn.expected;split <;> omega
 go_enter Tryz.func63,Tryz.ntmps63
 go_wp2_with fail;refine(eo f c _ hs.out ok).mono ?_;rintro e w1⟨rfl,hb⟩;have hs1:=hid (hs.out.below hb);have c11:=hs1.out.cell 11 f.X rfl;have c14:=hs1.out.cell 14 c.ann rfl;have HB:=hid hb;clear hb;go_wp2_with fail
 go_quiet ((go_at_call 110;exact qs (cH _ _ _ _ _ (hs1.out.bx.drewN _))))
 all_goals
  go_wp2
  all_goals
   go_ret;refine⟨rE ?_,HB.trans (Below.drewN' _ _ |>.mono HB.size)⟩;unfold Cn.accepts
   (repeat' split) <;> simp_all <;> omega
end
section
open Go.RowKit Go.Shelf
theorem wX (s e:Int)(hs:0<=s/\s<=9)(he:1<=e/\e<=9):tP s e=(match jC s e with | none=> -1 | some n=>n):=by
 obtain⟨a,rfl⟩:=Int.eq_ofNat_of_zero_le hs.1;obtain⟨b,rfl⟩:=Int.eq_ofNat_of_zero_le (show 0<=e by omega);have h:∀a:Nat,a<10->∀b:Nat,b<10->1<=b->tP (a:Int) (b:Int)=(match jC (a:Int) (b:Int)with | none=> -1 | some n=>n):=by decide
 exact h a (by omega) b (by omega) (by omega)
theorem co (now t:Int)(w:World) :
  Calls Tryz.prog 73 #[now,t] w fun e w'=>e= .returned (.agg #[true,now,t])/\Below w.heap.size w w':=by
 go_enter Tryz.func73,Tryz.ntmps73
 go_wp2
 refine bodyPost_ret (v:=.agg #[true,now,t]) (results_cell_row (p:=4) (ty:=100) rfl _ _ w.heap.size 100 _ (0,0) _ (by rfl) (heap_alloc_new _ _) Tryz.underlying100 rfl (by kernel_rfl)) rfl ⟨rfl,(Below.refl _ _).alloc (Nat.le_refl _) _⟩
theorem tY {s n:Int}(hs:aI s)(hn:aI n)(h:s<=n):IntKind.u64.wrap (IntKind.u64.wrap n-IntKind.u64.wrap s)=n-s:=by
 unfold aI at hs hn;rw[IntKind.wrap_u64,IntKind.wrap_u64,IntKind.wrap_u64];omega
theorem ig (a:Al)(now:Int)(w:World)(h1:aI now)(h2:aI a.since)(h3:0<=a.ticks/\a.ticks<=1000) :
  Calls Tryz.prog 70 #[.agg #[a.set,a.since,a.ticks],now] w fun e w'=>e= .returned (a.due now)/\Below w.heap.size w w':=by
 have HU:=hid (fun h=>tY h2 h1 h);unfold aI at h1 h2;obtain⟨s,b,t⟩:=a;dsimp only at h2 h3 HU|-
 go_enter Tryz.func70,Tryz.ntmps70
 go_wp2
 all_goals
  go_ret;refine⟨rE ?_,(Below.refl _ _).alloc (Nat.le_refl _) _⟩;unfold Al.due;dsimp only
  first | (rw[HU.o (by omega)];simp_all;done) | (simp_all;done) | (simp_all;omega)
theorem bV (f:Fp)(c:Cn)(w:World)(h:CnAt f c w) :
  Calls Tryz.prog 60 #[f.C] w fun e w'=>e= .returned (decide (c.st=0))/\Below w.heap.size w w':=by
 have aF:=h.cell 28 c.st rfl
 go_enter Tryz.func60,Tryz.ntmps60
 go_wp2;go_ret;exact⟨rfl,Below.refl _ _⟩
theorem fe (f:Fp)(c:Cn)(w:World)(h:CnAt f c w) :
  Calls Tryz.prog 93 #[f.C] w fun e w'=>e= .returned c.failure/\Below w.heap.size w w':=by
 have a0:=h.cell 29 c.err rfl
 go_enter Tryz.func93,Tryz.ntmps93
 go_wp2
 all_goals
  go_ret;refine⟨bk ?_,Below.refl _ _⟩;unfold Cn.failure;split <;> simp_all
theorem cp (f:Fp)(c:Cn)(w:World)(h:CnAt f c w) :
  Calls Tryz.prog 21 #[f.C] w fun e w'=>e= .returned c.st/\w=w':=by
 have aF:=h.cell 28 c.st rfl
 go_enter Tryz.func21,Tryz.ntmps21
 go_wp2
 go_ret;exact⟨rfl,rfl⟩
theorem nf (f:Fp)(c:Cn)(w:World)(h:CnAt f c w) :
  Calls Tryz.prog 32 #[f.C] w fun e w'=>e= .returned c.err/\w=w':=by
 have a0:=h.cell 29 c.err rfl
 go_enter Tryz.func32,Tryz.ntmps32
 go_wp2
 go_ret;exact⟨rfl,rfl⟩
theorem kN (f:Fp)(c:Cn)(w:World)(h:CnAt f c w) :
  Calls Tryz.prog 113 #[f.C] w fun e w'=>e= .returned (eh c.st)/\Below w.heap.size w w':=by
 have aF:=h.cell 28 c.st rfl
 go_enter Tryz.func113,Tryz.ntmps113
 go_wp2
 all_goals
  go_ret;refine⟨rE ?_,Below.refl _ _⟩;unfold eh
  simp_all
end
section
open Go.RowKit Go.Shelf
set_option maxHeartbeats 2000000 in
theorem bz (f:Fp) (c:Cn) (now ev:Int) (w:World) (h:CnAt f c w) (hs:0<=c.st/\c.st<=9) (he:1<=ev/\ev<=9) :
  Calls Tryz.prog 57 #[f.C,now,ev] w fun e w'=>e= .returned (.tuple #[])/\CnAt f (c.step now ev) w'/\ChgF f w w':=by
 have aF:=h.cell 28 c.st rfl;have hq:=wX c.st ev hs he;have hc:=hid h
 cases hx:jC c.st ev with
 | none =>
  rw[hx]at hq;have HS:=hid (show c.step now ev=c by unfold Cn.step;rw[hx]);rw[HS.o]
  go_enter Tryz.func57,Tryz.ntmps57
  go_wp2_with fail;refine(nY c.st ev _ h.gl.tri).mono ?_;rintro e w1⟨rfl,hb⟩;have hn:tQ c.st ev=170:=by unfold tQ;rw[if_pos hq]
  rw[hn];go_wp2_with fail;exact bodyPost_ret (results_none rfl _ _ _) rfl ⟨rfl,h.below hb,.ofB hb⟩
 | some n =>
  rw[hx]at hq;have a1:n≠ -1:=by have:=oe hx;omega
  go_enter Tryz.func57,Tryz.ntmps57
  go_wp2_with fail;refine(nY c.st ev _ h.gl.tri).mono ?_;rintro e w1⟨rfl,hb⟩;have hn:tQ c.st ev=0:=by unfold tQ;rw[if_neg (by rw[hq];exact a1)]
  have hm:vD c.st ev=n:=by unfold vD;rw[if_neg (by rw[hq];exact a1),hq]
  rw[hn,hm];have hc1:=hid (h.below hb);have HB:=hid hb;have a3:=hc1.out.free 28;have a4:=hc1.out.free 34;have a5:=hc1.out.free 35;have f36:=hc1.out.free 36;have aF:=hc1.out.cell 28 c.st rfl;clear hb hq hn hm;by_cases h9:n=9
  ·subst h9;go_wp2_with fail;refine(co _ _ _).mono ?_;rintro e w2⟨rfl,hb⟩;have hc2:=hid (hc1.out.below hb);have a6:=hid hb;have a3:=hc2.out.free 28;have a4:=hc2.out.free 34;have a5:=hc2.out.free 35;have f36:=hc2.out.free 36;have aF:=hc2.out.cell 28 c.st rfl;have aa:=hc2.out.cell 34 c.per.set rfl;have ab:=hc2.out.cell 35 c.per.since rfl;have ac:=hc2.out.cell 36 c.per.ticks rfl;go_wp2_with fail
   go_end0
   have HS:c.step now ev={ c with per:=.aft now 60,st:=9 }:=by unfold Cn.step;rw[hx];rfl
   rw[HS];exact⟨rfl,(((hc2.out.set 34 _ { c with per:=⟨true,c.per.since,c.per.ticks⟩ } rfl rfl rfl rfl rfl).set 35 _ { c with per:=⟨true,now,c.per.ticks⟩ } rfl rfl rfl rfl rfl).set 36 _ { c with per:=.aft now 60 } rfl rfl rfl rfl rfl).set 28 _ _ rfl rfl rfl rfl rfl,(ChgF.ofB (aZ HB.o a6.o)).trans (.ofC ((((Chg.refl _ _).setCell 34 _).setCell 35 _).setCell 36 _ |>.setCell 28 _))⟩
  go_wp2_with fail
  go_end0
  have HS:c.step now ev={ c with st:=n }:=by unfold Cn.step;rw[hx];dsimp only;rw[if_neg h9]
  rw[HS];exact⟨rfl,hc1.out.set 28 _ _ rfl rfl rfl rfl rfl,(ChgF.ofB HB.o).trans (.ofC ((Chg.refl _ _).setCell 28 _))⟩
theorem db (f:Fp)(c:Cn)(now ev er:Int)(w:World)(h:CnAt f c w)(hs:0<=c.st/\c.st<=9)(he:1<=ev/\ev<=9) :
  Calls Tryz.prog 65 #[f.C,now,ev,er] w fun e w'=>e= .returned (.tuple #[])/\CnAt f (c.finish now ev er) w'/\ChgF f w w':=by
 go_enter Tryz.func65,Tryz.ntmps65
 go_wp2_with fail;refine(bz f c now ev _ h hs he).mono ?_;rintro e w1⟨rfl,hc,hch⟩;have HC:=hid hc;have HH:=hid hch;have ag:=hc.free 29;have a0:=hc.cell 29 (c.step now ev).err rfl;clear hc hch;go_wp2_with fail
 go_end0
 exact⟨rfl,HC.set 29 _ (c.finish now ev er) rfl rfl rfl rfl rfl,HH.trans (.ofC ((Chg.refl _ _).setCell 29 _))⟩
theorem ng (f:Fp)(c:Cn)(m:Int)(w:World)(h:CnAt f c w)(ok:c.bx.Ok)(ha: -1099511627776<=c.ann/\c.ann<=2199023255552)(hr:0<=c.room/\c.room<=8192) :
  Calls Tryz.prog 145 #[.pointer (some ⟨f.C,11,none⟩),m] w fun e w'=>e= .returned (c.raised m)/\Below w.heap.size w w':=by
 have hs:=hid h;by_cases hg:c.growsB m=true
 ·have HR:=hid (show c.raised m=c.most by unfold Cn.raised;rw[if_pos hg]);rw[HR.o];clear HR
  go_enter Tryz.func145,Tryz.ntmps145
  go_wp2_with fail;refine(fd f c m _ hs.out ok ha hr).mono ?_;rintro e w1⟨rfl,hb⟩;have hc1:=hid (hs.out.below hb);have c11:=hc1.out.cell 11 f.X rfl;have c14:=hc1.out.cell 14 c.ann rfl;have HB:=hid hb;clear hb;rw[hg];clear hg;go_wp2;go_ret;exact⟨rfl,HB.o⟩
 have HR:=hid (show c.raised m=max c.ann c.bx.nx by unfold Cn.raised;rw[if_neg hg]);have hg':c.growsB m=false:=by simpa using hg
 rw[HR.o];clear HR
 go_enter Tryz.func145,Tryz.ntmps145
 go_wp2_with fail;refine(fd f c m _ hs.out ok ha hr).mono ?_;rintro e w1⟨rfl,hb⟩;have hc1:=hid (hs.out.below hb);have c11:=hc1.out.cell 11 f.X rfl;have c14:=hc1.out.cell 14 c.ann rfl;have HB:=hid hb;clear hb;rw[hg'];clear hg hg';go_wp2_with fail
 go_quiet ((go_at_call 110;exact qs (cH _ _ _ _ _ (hc1.out.bx.drewN _))))
 all_goals
  go_wp2
  go_ret;exact⟨rfl,HB.trans ((Below.drewN' _ _).mono HB.size)⟩
theorem mQ (f:Fp)(c:Cn)(now:Int)(w:World)(h:CnAt f c w) :
  Calls Tryz.prog 168 #[.pointer (some ⟨f.C,11,none⟩),now] w fun e w'=>e= .returned (.tuple #[])/\CnAt f (c.ackSoon now) w'/\ChgF f w w':=by
 have c18:=h.cell 18 c.pend rfl;have a2:=h.free 18;have hs:=hid h;by_cases hp:c.pend=0
 ·have HR:=hid (show c.ackSoon now={ c with pend:=1,ackT:=.aft now 2 } by unfold Cn.ackSoon;rw[if_neg (by omega)]);rw[HR.o];clear HR
  go_enter Tryz.func168,Tryz.ntmps168
  go_wp2_with fail;have h1:CnAt f { c with pend:=1 } (w.setCell ⟨f.C,18,none⟩ (1:Int)):=h.set 18 _ _ rfl rfl rfl rfl rfl;refine(co _ _ _).mono ?_;rintro e w2⟨rfl,hb⟩;have hc2:=hid (h1.below hb);have HH:=hid ((ChgF.ofC (f:=f) ((Chg.refl f.C w).setCell 18 (1:Int))).trans (.ofB hb));have f19:=hc2.out.free 19;have al:=hc2.out.free 20;have am:=hc2.out.free 21;have c19:=hc2.out.cell 19 c.ackT.set rfl;have c20:=hc2.out.cell 20 c.ackT.since rfl;have c21:=hc2.out.cell 21 c.ackT.ticks rfl;clear h1 hb;go_wp2_with fail
  go_end0
  exact⟨rfl,((hc2.out.set 19 _ { c with pend:=1,ackT:=⟨true,c.ackT.since,c.ackT.ticks⟩ } rfl rfl rfl rfl rfl).set 20 _ { c with pend:=1,ackT:=⟨true,now,c.ackT.ticks⟩ } rfl rfl rfl rfl rfl).set 21 _ { c with pend:=1,ackT:=.aft now 2 } rfl rfl rfl rfl rfl,HH.trans (.ofC ((((Chg.refl _ _).setCell 19 _).setCell 20 _).setCell 21 _))⟩
 have HR:=hid (show c.ackSoon now=c.ackNow by unfold Cn.ackSoon;rw[if_pos hp];rfl);rw[HR.o];clear HR
 go_enter Tryz.func168,Tryz.ntmps168
 go_wp2_with fail;refine(br f c _ hs.out).mono ?_;rintro e w1⟨rfl,hc,hch⟩;go_wp2_with fail;exact bodyPost_ret (results_none rfl _ _ _) rfl ⟨rfl,hc,hch⟩
end
section
open Go.RowKit Go.Shelf
def cw (g:Sg)(a:Option Addr)(cap:Nat):Value:=.agg #[g.fp,g.tp,g.sq,g.ak,g.syn,g.fin,g.rst,g.has,g.win,g.mss,g.sacks,.slice a g.bl.length cap,.string ⟨g.s.toArray⟩]
theorem ff (l:List UInt8)(a b:Nat):(⟨l.toArray⟩:ByteArray).extract a b=⟨((l.take b).drop a).toArray⟩:=by rw[tX,List.drop_take]
theorem iI (f:Fp)(c:Cn)(n:Int)(w:World)(h:CnAt f c w) :
  Calls Tryz.prog 107 #[f.C,n] w fun e w'=>e= .returned (cw (c.resetS n) none 0)/\Below w.heap.size w w':=by
 have hlt:=h.lt;have hne:f.C≠w.heap.size:=by omega
 have a7:=h.cell 22 c.cf.fp rfl;have a9:=h.cell 23 c.cf.tp rfl
 go_enter Tryz.func107,Tryz.ntmps107
 go_wp2
 go_region
 all_goals
  go_wp2
  refine bodyPost_ret (v:=cw (c.resetS n) none 0) (results_cell_row (p:=4) (ty:=43) rfl _ _ w.heap.size 43 _ (0,0) _ (by rfl) (heap_alloc_new _ _) Tryz.underlying43 rfl (by kernel_rfl)) rfl ⟨rfl,((Below.refl _ _).alloc (Nat.le_refl _) _).drew⟩
theorem kO (w:World)(o p:Obj):((w.alloc o).alloc p).heap[w.heap.size+1]? =some p:=by
 have:=heap_alloc_new (w.alloc o) p
 rwa [World.size_alloc]at this
theorem ii (f:Fp)(c:Cn)(g:Sg)(a:Option Addr)(cap:Nat)(off:Int)(w:World)(h:CnAt f c w) :
  Calls Tryz.prog 104 #[f.C,cw g a cap,off] w fun e w'=>e= .returned (cw (c.address g off) a cap)/\Below w.heap.size w w':=by
 have hlt:=h.lt;have hne:f.C≠w.heap.size:=by omega
 have c13:=h.cell 13 c.room rfl;have a7:=h.cell 22 c.cf.fp rfl;have a9:=h.cell 23 c.cf.tp rfl;have an:=h.cell 24 c.cf.iss rfl;obtain⟨g1,g2,g3,g4,g5,g6,g7,g8,g9,g10,g11,g12,g13⟩:=g
 cases g5
 all_goals
  unfold cw;dsimp only
  go_enter Tryz.func104,Tryz.ntmps104
  go_wp2_with fail;refine(fU _ _ _).mono ?_;rintro e w1⟨rfl,rfl⟩;go_wp2_with fail
 ·refine bodyPost_ret (results_cell_row (p:=6) (ty:=43) rfl _ _ (w.heap.size+1) 43 _ (0,0) _ (by rfl) (kO _ _ _) Tryz.underlying43 rfl (by kernel_rfl)) rfl ⟨rfl,((Below.refl _ _).alloc (Nat.le_refl _) _).alloc (by simp) _⟩
 refine bodyPost_ret (results_cell_row (p:=6) (ty:=43) rfl _ _ (w.heap.size+1) 43 _ (0,0) _ (by rfl) (kO _ _ _) Tryz.underlying43 rfl (by kernel_rfl)) rfl ⟨rfl,((Below.refl _ _).alloc (Nat.le_refl _) _).alloc (by simp) _⟩
end
section
open Go.RowKit Go.Shelf
set_option maxHeartbeats 1000000 in
theorem fg (f:Fp) (c:Cn) (w:World) (h:CnAt f c w) :
  Calls Tryz.prog 50 #[f.C] w fun e w'=>e= .returned c.refusal/\Below w.heap.size w w':=by
 have hs:=hid h
 go_enter Tryz.func50,Tryz.ntmps50
 go_wp2_with fail;refine(bV f c _ hs.out).mono ?_;rintro e w1⟨rfl,hb⟩;have hc1:=hid (hs.out.below hb);have HB:=hid hb;have c9:=hc1.out.cell 9 c.shut rfl;have aF:=hc1.out.cell 28 c.st rfl;clear hb;by_cases h0:c.st=0
 ·have HR:=hid (show c.refusal=c.failure by unfold Cn.refusal;rw[if_pos h0]);have hd:decide (c.st=0)=true:=decide_eq_true h0;rw[hd];clear hd h0;go_wp2_with fail;refine(fe f c _ hc1.out).mono ?_;rintro e w2⟨rfl,hb⟩;go_wp2;go_ret;exact⟨by rw[<-HR.o];rfl,aZ HB.o hb⟩
 have HR:=hid (show c.refusal=if c.shut=false/\(c.st=1\/c.st=2\/c.st=3\/c.st=6)then 0 else 183 by unfold Cn.refusal;rw[if_neg h0]);have hd:decide (c.st=0)=false:=decide_eq_false h0;rw[hd];clear hd;go_wp2_with fail
 all_goals
  go_ret;refine⟨bk ?_,HB.o⟩;rw[HR.o]
  simp_all
theorem pA (f:Fp)(c:Cn)(w:World)(h:CnAt f c w)(hl:c.held.length<=1099511627776)(hk:0<=c.cf.keep/\c.cf.keep<=1099511627776) :
  Calls Tryz.prog 23 #[f.C] w fun e w'=>e= .returned c.space/\Below w.heap.size w w':=by
 have hz:(⟨c.held.toArray⟩:ByteArray).size=c.held.length:=by simp[ByteArray.size]
 have hs:=hid h;by_cases hr:c.refusal=0
 ·have HS:=hid (show c.space=max 0 (c.cf.keep-c.held.length) by unfold Cn.space;rw[if_neg (by omega)]);rw[HS.o];clear HS
  go_enter Tryz.func23,Tryz.ntmps23
  go_wp2_with fail;refine(fg f c _ hs.out).mono ?_;rintro e w1⟨rfl,hb⟩;rw[hr];have hc1:=hid (hs.out.below hb);have HB:=hid hb;have c3:=hc1.out.cell 3 (.string ⟨c.held.toArray⟩) rfl;have av:=hc1.out.cell 27 c.cf.keep rfl;clear hb hr;go_wp2_with fail
  go_region
  all_goals
   go_wp2
   go_ret;exact⟨rfl,HB.trans ((Below.drewN' _ 1).mono HB.size)⟩
 have HS:=hid (show c.space=0 by unfold Cn.space;rw[if_pos hr]);rw[HS.o];clear HS
 go_enter Tryz.func23,Tryz.ntmps23
 go_wp2_with fail;refine(fg f c _ hs.out).mono ?_;rintro e w1⟨rfl,hb⟩;go_wp2;go_ret;exact⟨rfl,hb⟩
end
section
open Go.RowKit Go.Shelf
abbrev bp := Sg × Option Addr × Nat
def aW (x:bp):List Value:=[x.1.fp,x.1.tp,x.1.sq,x.1.ak,x.1.syn,x.1.fin,x.1.rst,x.1.has,x.1.win,x.1.mss,x.1.sacks,.slice x.2.1 x.1.bl.length x.2.2,.string ⟨x.1.s.toArray⟩]
def dd (L:List bp):List Value:=L.flatMap aW
theorem mR (A B:List bp):dd (A++B)=dd A++dd B:=List.flatMap_append ..
theorem mS (L:List bp):(dd L).length=L.length*13:=by
 induction L with
 | nil=>rfl
 | cons x L ih=>show(aW x++dd L).length=_;rw[List.length_append,ih,List.length_cons];show 13+_=_;omega
theorem rF (L:List bp)(i:Nat)(h:i<L.length)(j:Nat)(hj:j<13):(dd L)[i*13+j]? =(aW L[i])[j]? :=by
 induction L generalizing i with
 | nil=>simp at h
 | cons x L ih =>
  show(aW x++dd L)[i*13+j]? =_
  cases i with
  | zero=>rw[List.getElem?_append_left (by show 0*13+j<13;omega)];simp
  | succ i =>
   rw[List.getElem?_append_right (by show 13<=_;omega)];rw[show(i+1)*13+j-(aW x).length=i*13+j by show _-13=_;omega]
   simpa using ih i (by simpa using h)
theorem rG (L:List bp):∀u∈dd L,u.oneCell'=true:=by
 intro u hu;obtain⟨x,_,h⟩:=List.mem_flatMap.1 hu
 simp[aW]at h
 rcases h with rfl | rfl | rfl | rfl | rfl | rfl | rfl | rfl | rfl | rfl | rfl | rfl | rfl <;> rfl
theorem nh:(Tryz.prog.info? 43).map (fun i=>(i.zero,i.size,i.bytes))=some (some (.agg #[(0:Int),(0:Int),(0:Int),(0:Int),false,false,false,false,(0:Int),(0:Int),false,.slice none 0 0,.string ⟨#[]⟩]),13,104):=by kernel_rfl
def au (w:World)(a:Option Addr)(L:List Sp):Prop:=SpAt w w.heap.size a L/\(0<L.length->∀ad,a=some ad->cu w ad.block 92)
theorem au.nil (w:World)(a:Option Addr):au w a []:=⟨⟨by simp,fun h=>by simp at h⟩,fun h=>by simp at h⟩
theorem au.keep {w w':World}{a:Option Addr}{L:List Sp}(h:au w a L)(hs:w.heap.size<=w'.heap.size)(hk:aE w w'):au w' a L :=
 ⟨h.1.keep h.2 hs hk,fun hl ad e=>(h.2 hl ad e).of (hk _ (h.2 hl ad e))⟩
def bm (w:World)(base:Nat)(v:Value)(L:List bp):Prop:=w.ownsRow base 43 13 v L.length (dd L)/\∀x∈L,au w x.2.1 x.1.bl
def aJ (w:World)(base:Nat)(v:Value)(L:List Sg):Prop:=∃M:List bp,M.map (·.1)=L/\bm w base v M
theorem bm.nil (w:World)(base:Nat):bm w base (.slice none 0 0) []:=⟨World.ownsRow_nil _ _ _ _,fun _ h=>by simp at h⟩
theorem aJ.nil (w:World)(base:Nat):aJ w base (.slice none 0 0) []:=⟨[],rfl,bm.nil w base⟩
theorem bm.lt {w:World}{base:Nat}{v:Value}{L:List bp}(h:bm w base v L):∀k,v.ownBlock=some k->base<=k/\k<w.heap.size:=World.ownsRow.lt h.1
theorem bm.ty {w:World}{base:Nat}{v:Value}{L:List bp}(h:bm w base v L):∀k,v.ownBlock=some k->cu w k 43:=by
 rcases h.1.2 with⟨rfl,hl⟩ | ⟨g,cap,cur,rfl,hbg,hg,r⟩
 ·intro k e;cases e
 intro k e;cases e;exact⟨_,_,hg⟩
theorem bm.keep {w w':World}{base:Nat}{v:Value}{L:List bp}(h:bm w base v L)(hs:w.heap.size<=w'.heap.size)(hk:aE w w')(hb:∀k,v.ownBlock=some k->w'.heap[k]? =w.heap[k]?):bm w' base v L:=by
 refine⟨⟨h.1.1,?_⟩,fun x hx=>(h.2 x hx).keep hs hk⟩
 rcases h.1.2 with hn | ⟨g,cap,cur,rfl,hbg,hg,r⟩
 ·exact .inl hn
 exact .inr ⟨g,cap,cur,rfl,hbg,(hb g rfl).trans hg,r⟩
theorem bm.below {w w':World}{base:Nat}{v:Value}{L:List bp}(h:bm w base v L)(hb:Below w.heap.size w w'):bm w' base v L :=
 h.keep hb.size (.below hb) (fun k e=>hb.block k (h.lt k e).2)
theorem bm.mono {w:World}{base base':Nat}{v:Value}{L:List bp}(h:bm w base v L)(hb:base'<=base):bm w base' v L:=by
 refine⟨⟨h.1.1,?_⟩,h.2⟩
 rcases h.1.2 with h | ⟨g,cap,cur,hv,hbg,r⟩
 ·exact .inl h
 exact .inr ⟨g,cap,cur,hv,Nat.le_trans hb hbg,r⟩
theorem aJ.below {w w':World}{base:Nat}{v:Value}{L:List Sg}(h:aJ w base v L)(hb:Below w.heap.size w w'):aJ w' base v L:=by
 obtain⟨M,e,h⟩:=h;exact⟨M,e,h.below hb⟩
theorem aJ.mono {w:World}{base base':Nat}{v:Value}{L:List Sg}(h:aJ w base v L)(hb:base'<=base):aJ w base' v L:=by
 obtain⟨M,e,h⟩:=h;exact⟨M,e,h.mono hb⟩
theorem bm.val {w:World}{base:Nat}{v:Value}{L:List bp}(h:bm w base v L):∃a cap,v= .slice a L.length cap/\L.length<=cap/\∀ad,a=some ad->ad=⟨ad.block,0,none⟩:=by
 rcases h.1.2 with⟨rfl,hn⟩ | ⟨g,cap,cur,hv,hbg,hg,hnc,hcm,hcs,htake⟩
 ·exact⟨none,0,by rw[hn],by omega,fun _ e=>by cases e⟩
 exact⟨_,cap,hv,hnc,fun _ e=>by cases e;rfl⟩
theorem bm.cells {w:World}{base:Nat}{v:Value}{L:List bp}(h:bm w base v L)(hL:0<L.length) :
  ∃g cap,v= .slice (some ⟨g,0,none⟩) L.length cap/\base<=g/\g<w.heap.size/\L.length<=cap/\∀j u,(dd L)[j]? =some u->w.cell? ((⟨g,0,none⟩:Addr).add j)=some u:=by
 rcases h.1.2 with⟨rfl,hl⟩ | ⟨g,cap,cur,rfl,hbg,hg,hnc,r⟩
 ·omega
 exact⟨g,cap,rfl,hbg,(Array.getElem?_eq_some_iff.1 hg).1,hnc,fun j u hu=>World.ownsRow.cells h.1 (g:=g) rfl j u hu⟩
theorem bm.spanKept {w w':World}{base:Nat}{v:Value}{L:List bp}(h:bm w base v L)(hg:w.grownBy w' v.ownBlock):aE w w':=fun b hb =>
 hg.block b hb.lt (fun e=>(hb.ne (h.ty b e.symm) (by decide)) rfl)
theorem iJ (w:World){ops:Array Oper}{rest:List Oper}{o:Oper}{a:Act}{Q:Exit->Act->World->Prop}(hgd:o.guard=none)(s x:Operand)
  (ho:o.op= .call { callee:=.builtin .append,args:= #[s,x],argTypes:= #[60,60] })(base:Nat)
  (v:Value)(L:List bp)(hs:a.eval s=v)(hown:bm w base v L)
  (b off c:Nat)(M:List bp)(hx:a.eval x= .slice (some ⟨b,off,none⟩) M.length c)(hM:∀j u,(dd M)[j]? =some u->w.cell? ((⟨b,off,none⟩:Addr).add j)=some u)(hB:∀y∈M,au w y.2.1 y.1.bl)(hL:L.length+M.length<=1300000000000)(hbase:base<=w.heap.size)
  (h:∀v' w',bm w' base v' (L++M)->w.grownBy w' v.ownBlock->(v'.ownBlock=v.ownBlock\/∃k,v'.ownBlock=some k/\w.heap.size<=k)->wpList Tryz.prog ops Q rest (a.put o.dst v') w'):wpList Tryz.prog ops Q (o::rest) a w:=by
 obtain⟨i0,hi,hz0,hz1,hz2⟩:=info_parts nh
 obtain⟨v',w',hr,h2,h3,h4⟩:=bS (P:=Tryz.prog) w base 60 o.type 43 i0 _ 13 104 Tryz.underlying60 hi hz0 hz1 hz2 rfl (by decide) v L.length (dd L) hown.1 ⟨b,off,none⟩ M.length c (dd M) (mS M)
  hM (rG M) (by unfold maxLen;omega) (by omega) hbase
 refine wpList_plain hgd fun K hK=> ?_;unfold Oper.wp execOp;simp only[ho,resolve,invoke,builtin,Sem.run_bind,Sem.run_pure,Result.andThen_ok,List.map_toArray,List.map_cons,List.map_nil,hs,hx,hr];have hk:=hown.spanKept h3;refine hK _ _ (h v' w' ⟨?_,fun y hy=> ?_⟩ h3 h4)
 ·rw[List.length_append,mR];exact h2
 rcases List.mem_append.1 hy with hy | hy
 ·exact(hown.2 y hy).keep h3.size hk
 exact(hB y hy).keep h3.size hk
theorem iK (w:World){ops:Array Oper}{rest:List Oper}{o:Oper}{a:Act}{Q:Exit->Act->World->Prop}(hgd:o.guard=none)(s x:Operand)
  (ho:o.op= .call { callee:=.builtin .append,args:= #[s,x],argTypes:= #[60,60] })(base:Nat)
  (v:Value)(L:List bp)(hs:a.eval s=v)(hown:bm w base v L)(ax:Option Addr)(c:Nat)(hx:a.eval x= .slice ax 0 c)
  (h:wpList Tryz.prog ops Q rest (a.put o.dst v) w):wpList Tryz.prog ops Q (o::rest) a w:=by
 obtain⟨ad,cap,rfl,hcap,-⟩:=hown.val;obtain⟨i0,hi,-,-,-⟩:=info_parts nh;have hr:=jd (P:=Tryz.prog) w 60 o.type 43 i0 hi Tryz.underlying60 ad L.length cap hcap ax c;refine wpList_plain hgd fun K hK=> ?_;unfold Oper.wp execOp;simp only[ho,resolve,invoke,builtin,Sem.run_bind,Sem.run_pure,Result.andThen_ok,List.map_toArray,List.map_cons,List.map_nil,hs,hx,hr];exact hK _ _ h
def vH (w:World)(base:Nat)(v:Value)(L:List bp)(e:Ending)(w':World):Prop :=
 ∃v',e= .returned v'/\bm w' base v' L/\w.grownBy w' v.ownBlock/\(v'.ownBlock=v.ownBlock\/∃k,v'.ownBlock=some k/\w.heap.size<=k)
theorem bs (w:World)(base:Nat)(v:Value)(L:List bp)(hown:bm w base v L)(b off c:Nat)(M:List bp)(hM:∀j u,(dd M)[j]? =some u->w.cell? ((⟨b,off,none⟩:Addr).add j)=some u)(hB:∀y∈M,au w y.2.1 y.1.bl)(hL:L.length+M.length<=1300000000000)(hbase:base<=w.heap.size) :
  Calls Tryz.prog 58 #[v,.slice (some ⟨b,off,none⟩) M.length c] w (vH w base v (L++M)):=by
 go_enter Tryz.func58,Tryz.ntmps58
 go_wp2_with (at_builtin;refine iJ _ rfl _ _ rfl base _ L rfl hown b off c M rfl hM hB hL hbase ?_)
 intro v' w1 h1 h2 h3;go_wp2;go_ret;exact⟨v',rfl,h1,h2,h3⟩
theorem rH (w:World)(base:Nat)(v:Value)(L:List bp)(hown:bm w base v L)(ax:Option Addr)(c:Nat) :
  Calls Tryz.prog 58 #[v,.slice ax 0 c] w (fun e w'=>e= .returned v/\w=w'):=by
 go_enter Tryz.func58,Tryz.ntmps58
 go_wp2_with (at_builtin;refine iK _ rfl _ _ rfl base _ L rfl hown ax c rfl ?_)
 go_wp2;go_ret;exact⟨rfl,rfl⟩
theorem bX {w:World}{b:Nat}{t:TypeId}{fr:Nat×Nat}{x:bp}(h:w.heap[b]? =some (.cells (aW x).toArray t fr)):∀j u,(dd [x])[j]? =some u->w.cell? ((⟨b,0,none⟩:Addr).add j)=some u:=by
 intro j u hj;rw[Addr.add_lit,Nat.zero_add,cell_of_row _ _ _ _ _ _ h]
 simpa[dd]using hj
theorem CnAt.grown {f:Fp}{c:Cn}{w w':World}{r:Option Nat}(h:CnAt f c w)(hg:w.grownBy w' r)(hr:∀k,r=some k->cu w k 43/\dZ<=k):CnAt f c w':=by
 have key:∀b t,cu w b t->t≠43->w'.heap[b]? =w.heap[b]? :=fun b t hb ht=>hg.block b hb.lt (fun e=>hb.ne (hr b e.symm).1 ht rfl);refine h.keep ⟨hg.os,hg.tape,hg.output,hg.size,fun k hk=>hg.block k (Nat.lt_of_lt_of_le hk h.gl.top) (fun e=>by have:=(hr k e.symm).2;omega)⟩ hg.size (fun b hb=>key b _ hb (by decide)) (key _ _ h.tyC (by decide)) (key _ _ h.tyS (by decide)) (key _ _ h.tyT (by decide)) (key _ _ h.tyG (by decide)) (key _ _ h.tyX (by decide)) (key _ _ h.tyR (by decide))
theorem ChgF.grown {f:Fp}{w w1 w':World}{r:Option Nat}(h:ChgF f w w1)(hg:w1.grownBy w' r)(hr:∀k,r=some k->w.heap.size<=k):ChgF f w w' :=
 ⟨hg.os.trans h.os,hg.tape.trans h.tape,hg.output.trans h.output,Nat.le_trans h.size hg.size,fun k hk h1 h2 h3 h4 h5 h6=>(hg.block k (Nat.lt_of_lt_of_le hk h.size) (fun e=>by have:=hr k e.symm;omega)).trans (h.block k hk h1 h2 h3 h4 h5 h6)⟩
theorem bm.chgF {f:Fp}{c:Cn}{w w':World}{base:Nat}{v:Value}{L:List bp}(h:bm w base v L)(hc:CnAt f c w)(hch:ChgF f w w'):bm w' base v L :=
 h.keep hch.size (hc.spanKept hch) (fun k e=>hch.block k (h.lt k e).2 ((h.ty k e).ne hc.tyC (by decide)) ((h.ty k e).ne hc.tyS (by decide)) ((h.ty k e).ne hc.tyT (by decide)) ((h.ty k e).ne hc.tyG (by decide)) ((h.ty k e).ne hc.tyX (by decide)) ((h.ty k e).ne hc.tyR (by decide)))
theorem au.chgF {f:Fp}{c:Cn}{w w':World}{a:Option Addr}{L:List Sp}(h:au w a L)(hc:CnAt f c w)(hch:ChgF f w w'):au w' a L:=h.keep hch.size (hc.spanKept hch)
end
section
open Go.RowKit Go.Shelf
def aQ (B:Nat)(x:bp)(W:World):Prop:=W.heap[B]? =some (.cells (aW x).toArray 43 (0,0))
theorem aQ.new (w:World)(x:bp):aQ w.heap.size x (w.alloc (.cells (aW x).toArray 43)):=heap_alloc_new _ _
theorem aQ.lt {B:Nat}{x:bp}{W:World}(h:aQ B x W):B<W.heap.size:=(Array.getElem?_eq_some_iff.1 h).1
theorem aQ.ty {B:Nat}{x:bp}{W:World}(h:aQ B x W):cu W B 43:=⟨_,_,h⟩
theorem aQ.below {B:Nat}{x:bp}{W W':World}(h:aQ B x W)(hb:Below W.heap.size W W'):aQ B x W':=(hb.block B h.lt).trans h
theorem aQ.set {B:Nat}{x y:bp}{W:World}(h:aQ B x W)(i:Nat)(v:Value)(he:(aW x).toArray.setIfInBounds i v=(aW y).toArray):aQ B y (W.setCell ⟨B,i,none⟩ v):=by
 unfold aQ;rw[heap_setCell_same _ _ _ _ _ _ h,he]
theorem aQ.other {B C:Nat}{x:bp}{W:World}(h:aQ B x W)(hne:B≠C)(i:Nat)(v:Value):aQ B x (W.setCell ⟨C,i,none⟩ v):=((Chg.refl C W).setCell i v).block B h.lt hne |>.trans h
theorem aQ.cell {B:Nat}{x:bp}{W:World}(h:aQ B x W)(i:Nat)(v:Value)(hv:(aW x)[i]? =some v):W.cell? ⟨B,i,none⟩=some v:=by
 rw[cell_of_row _ _ _ _ _ _ h]
 simpa using hv
theorem aQ.free {B:Nat}{x:bp}{W:World}(h:aQ B x W)(i:Nat):W.frozen? ⟨B,i,none⟩=false:=frozen_of_row _ _ _ _ _ h
theorem aQ.chgF {B:Nat}{x:bp}{f:Fp}{c:Cn}{W W':World}(h:aQ B x W)(hc:CnAt f c W)(hch:ChgF f W W'):aQ B x W' :=
 (hch.block B h.lt (h.ty.ne hc.tyC (by decide)) (h.ty.ne hc.tyS (by decide)) (h.ty.ne hc.tyT (by decide)) (h.ty.ne hc.tyG (by decide)) (h.ty.ne hc.tyX (by decide)) (h.ty.ne hc.tyR (by decide))).trans h
theorem CnAt.beside {f:Fp}{c:Cn}{w w':World}{B:Nat}{t:TypeId}(h:CnAt f c w)(hB:cu w B t)(hc:Chg B w w')(hg:dZ<=B)
  (h1:t≠104)(h2:t≠171)(h3:t≠147)(h4:t≠168)(h5:t≠156)(h6:t≠5)(h7:t≠92):CnAt f c w':=by
 refine h.keep ⟨hc.os,hc.tape,hc.output,hc.size,fun k hk=>hc.block k (Nat.lt_of_lt_of_le hk h.gl.top) (by omega)⟩ hc.size (fun b hb=>hc.block b hb.lt (hb.ne hB h7.symm)) (hc.block _ h.tyC.lt (h.tyC.ne hB h1.symm)) (hc.block _ h.tyS.lt (h.tyS.ne hB h2.symm)) (hc.block _ h.tyT.lt (h.tyT.ne hB h3.symm)) (hc.block _ h.tyG.lt (h.tyG.ne hB h4.symm)) (hc.block _ h.tyX.lt (h.tyX.ne hB h5.symm)) (hc.block _ h.tyR.lt (h.tyR.ne hB h6.symm))
theorem ChgF.newset {f:Fp}{w w1:World}(h:ChgF f w w1){B:Nat}(hB:w.heap.size<=B)(i:Nat)(v:Value):ChgF f w (w1.setCell ⟨B,i,none⟩ v):=by
 have hc:Chg B w1 (w1.setCell ⟨B,i,none⟩ v):=(Chg.refl _ _).setCell i v;exact⟨hc.os.trans h.os,hc.tape.trans h.tape,hc.output.trans h.output,Nat.le_trans h.size hc.size,fun k hk h1 h2 h3 h4 h5 h6=>(hc.block k (Nat.lt_of_lt_of_le hk h.size) (by omega)).trans (h.block k hk h1 h2 h3 h4 h5 h6)⟩
def dG (W:World)(B:Nat)(x:bp):World:=(((((((((((((W.setCell B x.1.fp).setCell ⟨B,1,none⟩ x.1.tp).setCell ⟨B,2,none⟩ x.1.sq).setCell ⟨B,3,none⟩ x.1.ak).setCell ⟨B,4,none⟩ x.1.syn).setCell ⟨B,5,none⟩ x.1.fin).setCell ⟨B,6,none⟩ x.1.rst).setCell ⟨B,7,none⟩ x.1.has).setCell ⟨B,8,none⟩ x.1.win).setCell ⟨B,9,none⟩ x.1.mss).setCell ⟨B,10,none⟩ x.1.sacks).setCell ⟨B,11,none⟩ (.slice x.2.1 x.1.bl.length x.2.2)).setCell ⟨B,12,none⟩ (.string ⟨x.1.s.toArray⟩))
theorem dN (W:World)(B:Nat)(x:bp):Chg B W (dG W B x):=((((((((((((((Chg.refl B W).setCell 0 _).setCell 1 _).setCell 2 _).setCell 3 _).setCell 4 _).setCell 5 _).setCell 6 _).setCell 7 _).setCell 8 _).setCell 9 _).setCell 10 _).setCell 11 _).setCell 12 _)
theorem cR {B:Nat}{vs:Array Value}{W:World}(h:W.heap[B]? =some (.cells vs 43 (0,0)))(i:Nat)(v:Value):(W.setCell ⟨B,i,none⟩ v).heap[B]? =some (.cells (vs.setIfInBounds i v) 43 (0,0)):=heap_setCell_same _ _ _ _ _ _ h
theorem aQ.put {B:Nat}{x y:bp}{W:World}(h:aQ B x W):aQ B y (dG W B y):=by
 have:=cR (cR (cR (cR (cR (cR (cR (cR (cR (cR (cR (cR (cR h 0 y.1.fp) 1 y.1.tp) 2 y.1.sq) 3 y.1.ak) 4 y.1.syn) 5 y.1.fin) 6 y.1.rst) 7 y.1.has) 8 y.1.win) 9 y.1.mss) 10 y.1.sacks) 11 (.slice y.2.1 y.1.bl.length y.2.2)) 12 (.string ⟨y.1.s.toArray⟩);simp only[aW,List.setIfInBounds_toArray,List.set_cons_zero,List.set_cons_succ]at this;exact this
theorem ChgF.newchg {f:Fp}{w w1 w2:World}(h:ChgF f w w1){B:Nat}(hB:w.heap.size<=B)(hc:Chg B w1 w2):ChgF f w w2 :=
 ⟨hc.os.trans h.os,hc.tape.trans h.tape,hc.output.trans h.output,Nat.le_trans h.size hc.size,fun k hk h1 h2 h3 h4 h5 h6=>(hc.block k (Nat.lt_of_lt_of_le hk h.size) (by omega)).trans (h.block k hk h1 h2 h3 h4 h5 h6)⟩
theorem CnAt.segchg {f:Fp}{c:Cn}{w w':World}{B:Nat}{x:bp}(h:CnAt f c w)(hB:aQ B x w)(hg:dZ<=B)(hc:Chg B w w'):CnAt f c w' :=
 h.beside hB.ty hc hg (by decide) (by decide) (by decide) (by decide) (by decide) (by decide) (by decide)
theorem aQ.chg {B C:Nat}{x:bp}{W W':World}(h:aQ B x W)(hc:Chg C W W')(hne:B≠C):aQ B x W':=(hc.block B h.lt hne).trans h
def oN (f:Fp)(c:Cn)(w W:World):Prop:=∃wx,CnAt f c wx/\wx.heap.size=w.heap.size/\Chg f.C w wx/\Below w.heap.size wx W
theorem oN.start {f:Fp}{c:Cn}{w:World}(h:CnAt f c w):oN f c w w:=⟨w,h,rfl,Chg.refl _ _,Below.refl _ _⟩
theorem oN.cn {f:Fp}{c:Cn}{w W:World}(h:oN f c w W):CnAt f c W:=by
 obtain⟨wx,h1,h2,h3,h4⟩:=h;exact h1.below (by rw[h2];exact h4)
theorem oN.ch {f:Fp}{c:Cn}{w W:World}(h:oN f c w W):ChgF f w W:=by
 obtain⟨wx,h1,h2,h3,h4⟩:=h;exact(ChgF.ofC h3).trans (.ofB (by rw[h2];exact h4))
theorem oN.size {f:Fp}{c:Cn}{w W:World}(h:oN f c w W):w.heap.size<=W.heap.size:=by
 obtain⟨wx,h1,h2,h3,h4⟩:=h;exact h2 ▸ h4.size
theorem oN.below {f:Fp}{c:Cn}{w W W':World}(h:oN f c w W)(hb:Below w.heap.size W W'):oN f c w W':=by
 obtain⟨wx,h1,h2,h3,h4⟩:=h;exact⟨wx,h1,h2,h3,h4.trans hb⟩
theorem oN.set {f:Fp}{c:Cn}{w W:World}(h:oN f c w W)(i:Nat)(v:Value)(d:Cn)(he:(eV f c).setIfInBounds i v=eV f d)(e1:d.sc=c.sc)(e2:d.tm=c.tm)(e3:d.cg=c.cg)(e4:d.bx=c.bx):oN f d w (W.setCell ⟨f.C,i,none⟩ v):=by
 have hcn:=h.cn;obtain⟨wx,h1,h2,h3,h4⟩:=h;refine⟨wx.setCell ⟨f.C,i,none⟩ v,h1.set i v d he e1 e2 e3 e4,by rw[World.size_setCell];exact h2,h3.setCell i v,?_⟩;have ha:Chg f.C wx (wx.setCell ⟨f.C,i,none⟩ v):=(Chg.refl _ _).setCell i v;have hb:Chg f.C W (W.setCell ⟨f.C,i,none⟩ v):=(Chg.refl _ _).setCell i v;refine⟨(hb.os.trans h4.os).trans ha.os.symm,(hb.tape.trans h4.tape).trans ha.tape.symm,(hb.output.trans h4.output).trans ha.output.symm,?_,fun k hk=> ?_⟩
 ·rw[World.size_setCell,World.size_setCell];exact h4.size
 by_cases hkc:k=f.C
 ·subst hkc;rw[heap_setCell_same _ _ _ _ _ _ hcn.blk,heap_setCell_same _ _ _ _ _ _ h1.blk]
 rw[hb.block k (Nat.lt_of_lt_of_le (h2 ▸ hk) h4.size) hkc,ha.block k (by rw[h2];exact hk) hkc];exact h4.block k hk
structure Aq (f:Fp)(c:Cn)(w:World)(x:bp)(W:World):Prop where
 old:oN f c w W
 p:aQ w.heap.size x W
 r:aQ (w.heap.size+1) (dg,none,0) W
 top:dZ<=w.heap.size
theorem ij {B:Nat}{x:bp}{W W':World}(h:aQ B x W)(hc:Chg B W W'):aE W W':=aE.chg hc h.ty (by decide)
theorem lZ {B N:Nat}{W W':World}(hc:Chg B W W')(hB:N<=B)(hN:N<=W.heap.size):Below N W W':=⟨hc.os,hc.tape,hc.output,hc.size,fun k hk=>hc.block k (by omega) (by omega)⟩
namespace Aq
variable {f : Fp} {c d : Cn} {w : World} {x y : bp} {W W' : World}
theorem cn (h:Aq f c w x W):CnAt f c W:=h.old.cn
theorem ch (h:Aq f c w x W):ChgF f w W:=h.old.ch
theorem below (h:Aq f c w x W)(hb:Below W.heap.size W W'):Aq f c w x W' :=
 ⟨h.old.below (hb.mono h.old.size),h.p.below hb,h.r.below hb,h.top⟩
theorem drewN (h:Aq f c w x W)(n:Nat):Aq f c w x (W.drewN n):=h.below (Below.drewN' W n)
theorem chg (h:Aq f c w x W)(hc:Chg w.heap.size W W')(hp:aQ w.heap.size y W'):Aq f c w y W' :=
 ⟨h.old.below (lZ hc (Nat.le_refl _) h.old.size),hp,h.r.chg hc (by omega),h.top⟩
theorem segset (h:Aq f c w x W)(i:Nat)(v:Value)(y:bp)(he:(aW x).toArray.setIfInBounds i v=(aW y).toArray):Aq f c w y (W.setCell ⟨w.heap.size,i,none⟩ v) :=
 h.chg ((Chg.refl _ _).setCell i v) (h.p.set i v he)
theorem put (h:Aq f c w x W)(y:bp):Aq f c w y (dG W w.heap.size y) :=
 h.chg (dN _ _ _) h.p.put
theorem cnset (h:Aq f c w x W)(i:Nat)(v:Value)(d:Cn)(he:(eV f c).setIfInBounds i v=eV f d)(e1:d.sc=c.sc)(e2:d.tm=c.tm)(e3:d.cg=c.cg)(e4:d.bx=c.bx):Aq f d w x (W.setCell ⟨f.C,i,none⟩ v):=by
 have hc:Chg f.C W (W.setCell ⟨f.C,i,none⟩ v):=(Chg.refl _ _).setCell i v;exact⟨h.old.set i v d he e1 e2 e3 e4,h.p.chg hc (h.p.ty.ne h.cn.tyC (by decide)),h.r.chg hc (h.r.ty.ne h.cn.tyC (by decide)),h.top⟩
theorem start (h:CnAt f c w)(x:bp):Aq f c w x ((w.alloc (.cells (aW x).toArray 43)).alloc (.cells (aW (dg,none,0)).toArray 43)):=by
 have hb0:=((Below.refl w.heap.size w).alloc (Nat.le_refl _) (.cells (aW x).toArray 43)).alloc (by simp) (.cells (aW (dg,none,0)).toArray 43);refine⟨(oN.start h).below hb0,(aQ.new w x).below ((Below.refl _ _).alloc (Nat.le_refl _) _),?_,h.gl.top⟩;have:=aQ.new (w.alloc (.cells (aW x).toArray 43)) (dg,none,0)
 rwa [World.size_alloc]at this
theorem result (h:Aq f c w x W)(y:bp):aQ (w.heap.size+1) y (dG W (w.heap.size+1) y)/\CnAt f c (dG W (w.heap.size+1) y)/\ChgF f w (dG W (w.heap.size+1) y)/\∀a L,au W a L->au (dG W (w.heap.size+1) y) a L:=by
 have hc:=dN W (w.heap.size+1) y;have ho:=h.old.below (lZ hc (by omega) h.old.size);exact⟨h.r.put,ho.cn,ho.ch,fun a L hb=>hb.keep hc.size (ij h.r hc)⟩
theorem grown (h:Aq f c w x W){r:Option Nat}(hg:W.grownBy W' r)(hr:∀k,r=some k->w.heap.size<=k/\cu W k 92):Aq f c w x W':=by
 have key:∀b,cu W b 43->W'.heap[b]? =W.heap[b]? :=fun b hb=>hg.block b hb.lt (fun e=>hb.ne (hr b e.symm).2 (by decide) rfl);exact⟨h.old.below (aM hg h.old.size (fun k e=>(hr k e).1)),(key _ h.p.ty).trans h.p,(key _ h.r.ty).trans h.r,h.top⟩
end Aq
end
section
open Go.ChangeShapes Go.WideShapes Go.ChangeAt Go.RowKit
theorem xT:Tryz.prog.globalNamed "stagepost/congestion.errSize" = some 0:=by kernel_rfl
theorem xU:(Tryz.prog.globals[0]?).map (·.type)=some 159:=by kernel_rfl
theorem vz : "*" ++ "errors.errorString" = "*errors.errorString" := by decide
theorem xl (u:TypeId)(h:Tryz.prog.typeName? 3 u=some "*errors.errorString"):u=272 :=
 typeName_ptr_named (nm := "errors.errorString") (by rw[vz];kernel_rfl) (by kernel_rfl) (by decide) u (by rw[vz];exact h)
theorem xC {W:World}(h:laidMetH Tryz.prog [("stagepost/tcpstate.triples",Rows.laid_stagepost_tcpstate_triples),("stagepost/congestion.errSize",Rows.laid_stagepost_congestion_errSize)] W):Gl W:=by
 have h':laidMet Tryz.prog [("stagepost/tcpstate.triples",Rows.laid_stagepost_tcpstate_triples),("stagepost/congestion.errSize",Rows.laid_stagepost_congestion_errSize)] W:=h
 have k1:eU W:=by
  obtain⟨t,fr,hh⟩:=rC (g:=1) (m:=3) (t:=205) (by kernel_rfl) (by kernel_rfl) (by kernel_rfl) h';exact⟨t,fr,hh.trans (by kernel_rfl)⟩
 obtain⟨a,s,hv,_,_,_⟩:=laid_sentinel h'.tail xT xU Tryz.underlying159 xl Tryz.underlying272 Tryz.underlying294 rfl rfl Tryz.underlying9 (by kernel_rfl) (by kernel_rfl);have hc:W.cell? ⟨0,0,none⟩=some (.iface 272 (.pointer (some a))):=by simpa using World.var?_cell xT hv 0
 have k2:ky a W:=⟨hc,block_lt_of_cell hc⟩;refine⟨k1,⟨a,k2⟩,?_⟩;obtain⟨t,fr,hh⟩:=k1;exact(Array.getElem?_eq_some_iff.1 hh).1
def ld (cs:Array Value):Obj->Obj
 | .cells _ t frozen=>.cells cs t frozen
 | o=>o
noncomputable def low : Nat := (World.holding Tryz.prog default ⟨#[], #[], []⟩).heap.size
noncomputable def xD (os:Os):World :=
 let w0:=World.holding Tryz.prog os ⟨#[.cells #[.string ⟨#[115,101,103,109,101,110,116,32,115,105,122,101,32,111,117,116,32,111,102,32,114,97,110,103,101]⟩] 294],#[],[]⟩
 { w0 with heap:=(w0.heap.modify 1 (ld gW)).modify 0 (ld #[.iface 272 low]) }
end
end Go.Proofs.YtclkcmidhhfdmaaGreatDoor
