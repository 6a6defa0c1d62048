import Derived.Test.YtcmncipikdpnbaaGreatDoorUb13
import Derived.Test.YtcmncipikdpnbaaGreatDoorUb15
import Derived.Test.YtcmncipikdpnbaaGreatDoorUb16
import Derived.Test.YtcmncipikdpnbaaGreatDoorUb17
import Derived.Test.YtcmncipikdpnbaaGreatDoorUb18
import Derived.LaidSub
import Derived.Stop.LaidErr
import Derived.LaidLaws
namespace Go.Proofs.YtcmncipikdpnbaaGreatDoor
section
open Go.RowKit Go.Shelf
def aG (w w':World):Prop:=∀b,dW w b 149->w'.heap[b]? =w.heap[b]?
theorem aG.refl (w:World):aG w w:=fun _ _=>rfl
theorem aG.below {w w':World}(h:Below w.heap.size w w'):aG w w':=fun b a=>h.block b a.lt
theorem aG.Dj {C:Nat}{t:TypeId}{w w':World}(h:nF C w w')(e:dW w C t)(i:t≠149):aG w w':=fun b a=>h.block b a.lt (a.ne e (Ne.symm i))
theorem aG.HW {X R:Nat}{t u:TypeId}{w w':World}(h:Co X R w w')(e:dW w X t)(i:dW w R u)(j:t≠149)(k:u≠149):aG w w':=fun b a=>h.block b a.lt (a.ne e (Ne.symm j)) (a.ne i (Ne.symm k))
theorem sT.keep {L:List Sp}{a:Option Addr}{w w':World}(h:sT w w.heap.size a L)(k:0<L.length->∀l,a=some l->dW w l.block 149)(hs:w.heap.size<=w'.heap.size)(p:aG w w'):sT w' w'.heap.size a L:=by
 refine⟨h.small,fun m=> ?_⟩;obtain⟨b,o,n,q,j⟩:=h.cells m;have e:=p b (k m _ n);exact⟨b,o,n,Ld q hs,fun i hi=>⟨(Li (a:=⟨b,_,none⟩) e).trans (j i hi).1,(Li (a:=⟨b,_,none⟩) e).trans (j i hi).2⟩⟩
theorem bG.keep {lb:Nat}{L:List Sp}{a:Option Addr}{cap:Nat}{w w':World}(h:bG lb L a cap w)(hs:w.heap.size<=w'.heap.size)(b:aG w w'):bG lb L a cap w' :=
 ⟨h.1.keep h.2.2.2.2 hs b,h.2.1,h.2.2.1,h.2.2.2.1,fun i j e=>(h.2.2.2.2 i j e).of (b _ (h.2.2.2.2 i j e))⟩
theorem bL.keep {B lb:Nat}{s:Sc}{w w':World}(h:bL B lb s w)(e:w'.heap[B]? =w.heap[B]?)(hs:w.heap.size<=w'.heap.size)(b:aG w w'):bL B lb s w':=by
 obtain⟨h1,⟨h2,i⟩,j,k,l,m,a,n,lg⟩:=h;exact⟨h1,⟨La h2 hs,La i hs⟩,j,k,l,m,e.trans a,n.keep hs b,lg.keep hs b⟩
theorem ao.keep {B R lb:Nat}{b:Bx}{w w':World}(h:ao B R lb b w)(n:w'.heap[B]? =w.heap[B]?)(o:w'.heap[R]? =w.heap[R]?)(hs:w.heap.size<=w'.heap.size)(k:aG w w'):ao B R lb b w':=by
 obtain⟨h0,p,a,i,j,h1,h2,q⟩:=h;exact⟨h0,o.trans p,a,i,n.trans j,⟨h1.tosT.keep h1.ty hs k,fun l m e=>(h1.ty l m e).of (k _ (h1.ty l m e))⟩,h2,q⟩
theorem fO.keep {B:Nat}{m:Tm}{w w':World}(h:fO B m w)(a:w'.heap[B]? =w.heap[B]?):fO B m w':=by
 obtain⟨t,b⟩:=h;exact⟨t,a.trans b⟩
theorem eU.keep {B:Nat}{m:Cg}{w w':World}(h:eU B m w)(a:w'.heap[B]? =w.heap[B]?):eU B m w':=by
 obtain⟨t,b⟩:=h;exact⟨t,a.trans b⟩
theorem bW.DC {B a b:Nat}{s:Sc}{w:World}(h:bW B a b s w):dW w B 135:=by
 obtain⟨-,-,i,j,k,l,e,-⟩:=h;exact⟨_,_,e⟩
theorem ao.DC {B R lb:Nat}{b:Bx}{w:World}(h:ao B R lb b w):dW w B 120/\dW w R 5:=by
 obtain⟨h0,i,a,j,e,-⟩:=h;exact⟨⟨_,_,e⟩,⟨_,_,i⟩⟩
theorem fO.DC {B:Nat}{m:Tm}{w:World}(h:fO B m w):dW w B 142:=by
 obtain⟨⟨t,rfl⟩,a⟩:=h;exact⟨_,_,a⟩
theorem eU.DC {B:Nat}{m:Cg}{w:World}(h:eU B m w):dW w B 132:=by
 obtain⟨⟨t,rfl⟩,a⟩:=h;exact⟨_,_,a⟩
structure Fp where
 C:Nat
 S:Nat
 T:Nat
 G:Nat
 X:Nat
 R:Nat
structure Fp.Hi (f:Fp)(N:Nat):Prop where
 C:N<=f.C
 S:N<=f.S
 T:N<=f.T
 G:N<=f.G
 X:N<=f.X
 R:N<=f.R
def dy:Nat:=0+1+1
structure Gl (w:World):Prop where
 Ij:fP w
 err:∃a,ow a w
 top:dy<=w.heap.size
theorem Gl.below {w w':World}(h:Gl w)(b:Below dy w w'):Gl w':=by
 obtain⟨⟨t,e,h1⟩,⟨a,h2⟩,i⟩:=h;exact⟨⟨t,e,by rw[b.block _ D];exact h1⟩,⟨a,h2.below b D⟩,La i b.size⟩
def fQ (f:Fp)(c:Cn):Array Value:= #[.pointer (some ⟨f.S,0,none⟩),.pointer (some ⟨f.T,0,none⟩),.pointer (some ⟨f.G,0,none⟩),.string ⟨c.held.toArray⟩,.int .i64 c.base,.int .i64 c.limit,.int .i64 c.largest,.int .i64 c.go,.bool c.ke,.bool c.shut,.int .i64 c.mark,.pointer (some ⟨f.X,0,none⟩),.int .i64 c.A2,.int .i64 c.room,.int .i64 c.ann,.bool c.ended,.int .i64 c.sw,.bool c.over,.int .i64 c.pend,.bool c.t8.set,.int .i64 c.t8.since,.int .i64 c.t8.ticks,.int .i64 c.cf.fp,.int .i64 c.cf.tp,.int .i64 c.cf.ki,.int .i64 c.cf.go,.int .i64 c.cf.room,.int .i64 c.cf.keep,.int .i64 c.st,.int .i64 c.err,.bool c.dl.set,.int .i64 c.dl.since,.int .i64 c.dl.ticks,.int .i64 c.tries,.bool c.per.set,.int .i64 c.per.since,.int .i64 c.per.ticks]
structure kn (f:Fp)(c:Cn)(w:World):Prop where
 blk:w.heap[f.C]? =some (.cells (fQ f c) 85 (0,0))
 sc:bL f.S (f.S+1) c.sc w
 tm:fO f.T c.tm w
 cg:eU f.G c.cg w
 bx:ao f.X f.R 0 c.bx w
 gl:Gl w
 hi:f.Hi dy
structure ot (f:Fp)(w w':World):Prop where
 os:w'.os=w.os
 tape:w'.tape=w.tape
 output:w'.output=w.output
 size:w.heap.size<=w'.heap.size
 block:∀k,k<w.heap.size->k≠f.C->k≠f.S->k≠f.T->k≠f.G->k≠f.X->k≠f.R->w'.heap[k]? =w.heap[k]?
theorem ot.refl (f:Fp)(w:World):ot f w w:=⟨Z,Z,Z,L6 _,fun _ _ _ _ _ _ _ _=>rfl⟩
theorem ot.trans {f:Fp}{a b c:World}(h:ot f a b)(k:ot f b c):ot f a c :=
 ⟨k.os.trans h.os,k.tape.trans h.tape,k.output.trans h.output,La h.size k.size,fun i hi h1 h2 e j l m=>(k.block i (Ld hi h.size) h1 h2 e j l m).trans (h.block i hi h1 h2 e j l m)⟩
theorem ot.trans' {f g:Fp}{a b c:World}(h:ot f a b)(k:ot g b c)(n:g.C=f.C)(o:g.S=f.S)(p:g.T=f.T)(q:g.G=f.G\/a.heap.size<=g.G)(r:g.X=f.X)(s:g.R=f.R):ot f a c :=
 ⟨k.os.trans h.os,k.tape.trans h.tape,k.output.trans h.output,La h.size k.size,fun i hi h1 h2 e j l m=>(k.block i (Ld hi h.size) O O O O O O).trans (h.block i hi h1 h2 e j l m)⟩
theorem ot.Da {f:Fp}{w w':World}(h:Below w.heap.size w w'):ot f w w':=⟨h.os,h.tape,h.output,h.size,fun k a _ _ _ _ _ _=>h.block k a⟩
theorem ot.DO {f:Fp}{w w':World}(h:nF f.C w w'):ot f w w':=⟨h.os,h.tape,h.output,h.size,fun k a h1 _ _ _ _ _=>h.block k a h1⟩
theorem ot.F6 {f:Fp}{w w':World}(h:nF f.S w w'):ot f w w':=⟨h.os,h.tape,h.output,h.size,fun k a _ h1 _ _ _ _=>h.block k a h1⟩
theorem ot.GL {f:Fp}{w w':World}(h:nF f.T w w'):ot f w w':=⟨h.os,h.tape,h.output,h.size,fun k a _ _ h1 _ _ _=>h.block k a h1⟩
theorem ot.Hy {f:Fp}{w w':World}(h:nF f.G w w'):ot f w w':=⟨h.os,h.tape,h.output,h.size,fun k a _ _ _ h1 _ _=>h.block k a h1⟩
theorem ot.I0 {f:Fp}{w w':World}(h:Co f.X f.R w w'):ot f w w':=⟨h.os,h.tape,h.output,h.size,fun k a _ _ _ _ h1 h2=>h.block k a h1 h2⟩
theorem ot.F7 {f:Fp}{w w':World}(h:ot f w w')(a:f.Hi dy)(b:dy<=w.heap.size):Below dy w w' :=
 ⟨h.os,h.tape,h.output,h.size,fun k e=>h.block k O (by have:=a.C;omega) (by have:=a.S;omega) (by have:=a.T;omega) (by have:=a.G;omega) (by have:=a.X;omega) (by have:=a.R;omega)⟩
theorem ot.below {f:Fp}{N:Nat}{w w':World}(h:ot f w w')(hs:N<=w.heap.size)(h1:N<=f.C)(h2:N<=f.S)(a:N<=f.T)(b:N<=f.G)(e:N<=f.X)(i:N<=f.R):Below N w w' :=
 ⟨h.os,h.tape,h.output,h.size,fun k j=>h.block k O O O O O O O⟩
namespace kn
variable {f g : Fp} {c d : Cn} {w w' : World}
theorem Cx (h:kn f c w):dW w f.C 85:=⟨_,_,h.blk⟩
theorem Dh (h:kn f c w):dW w f.S 135:=h.sc.DC
theorem Dm (h:kn f c w):dW w f.T 142:=h.tm.DC
theorem Dn (h:kn f c w):dW w f.G 132:=h.cg.DC
theorem Dp (h:kn f c w):dW w f.X 120:=h.bx.DC.1
theorem Dq (h:kn f c w):dW w f.R 5:=h.bx.DC.2
theorem lt (h:kn f c w):f.C<w.heap.size:=h.Cx.lt
theorem cell (h:kn f c w)(i:Nat)(v:Value)(a:(fQ f c)[i]? =some v):w.cell? ⟨f.C,i,none⟩=some v:=by rw[Lq _ _ _ _ _ _ h.blk];exact a
theorem free (h:kn f c w)(i:Nat):w.frozen? ⟨f.C,i,none⟩=false:=LW _ _ _ _ _ h.blk
theorem keep (h:kn f c w)(b:Below dy w w')(hs:w.heap.size<=w'.heap.size)(a:aG w w')(h1:w'.heap[f.C]? =w.heap[f.C]?)(h2:w'.heap[f.S]? =w.heap[f.S]?)(e:w'.heap[f.T]? =w.heap[f.T]?)(i:w'.heap[f.G]? =w.heap[f.G]?)(j:w'.heap[f.X]? =w.heap[f.X]?)(k:w'.heap[f.R]? =w.heap[f.R]?):kn f c w' :=
 ⟨h1.trans h.blk,h.sc.keep h2 hs a,h.tm.keep e,h.cg.keep i,h.bx.keep j k hs a,h.gl.below b,h.hi⟩
theorem below (h:kn f c w)(a:Below w.heap.size w w'):kn f c w' :=
 h.keep (a.mono h.gl.top) a.size (.below a) (a.block _ h.Cx.lt) (a.block _ h.Dh.lt) (a.block _ h.Dm.lt) (a.block _ h.Dn.lt) (a.block _ h.Dp.lt) (a.block _ h.Dq.lt)
theorem alloc (h:kn f c w)(o:Obj):kn f c (w.alloc o):=h.below ((L5 _ w).alloc (L6 _) o)
theorem drew (h:kn f c w):kn f c w.drew:=h.below (L5 _ w).drew
theorem set (h:kn f c w)(i:Nat)(v:Value)(d:Cn)(he:(fQ f c).setIfInBounds i v=fQ f d)(e:d.sc=c.sc)(j:d.tm=c.tm)(k:d.cg=c.cg)(l:d.bx=c.bx):kn f d (w.setCell ⟨f.C,i,none⟩ v):=by
 have a:nF f.C w (w.setCell ⟨f.C,i,none⟩ v):=(nF.refl _ _).setCell i v;have b:=aG.Dj a h.Cx D;refine⟨by rw[LK _ _ _ _ _ _ h.blk,he],?_,?_,?_,?_,h.gl.below ((ot.DO a).F7 h.hi h.gl.top),h.hi⟩
 ·rw[e];exact h.sc.keep (a.block _ h.Dh.lt (h.Dh.ne h.Cx D)) a.size b
 ·rw[j];exact h.tm.keep (a.block _ h.Dm.lt (h.Dm.ne h.Cx D))
 ·rw[k];exact h.cg.keep (a.block _ h.Dn.lt (h.Dn.ne h.Cx D))
 rw[l];exact h.bx.keep (a.block _ h.Dp.lt (h.Dp.ne h.Cx D)) (a.block _ h.Dq.lt (h.Dq.ne h.Cx D)) a.size b
theorem G3 (h:kn f c w){s:Sc}(hs:bL f.S (f.S+1) s w')(a:nF f.S w w'):kn f { c with sc:=s } w':=by
 have b:=aG.Dj a h.Dh D;exact⟨(a.block _ h.Cx.lt (h.Cx.ne h.Dh D)).trans h.blk,hs,h.tm.keep (a.block _ h.Dm.lt (h.Dm.ne h.Dh D)),h.cg.keep (a.block _ h.Dn.lt (h.Dn.ne h.Dh D)),h.bx.keep (a.block _ h.Dp.lt (h.Dp.ne h.Dh D)) (a.block _ h.Dq.lt (h.Dq.ne h.Dh D)) a.size b,h.gl.below ((ot.F6 a).F7 h.hi h.gl.top),h.hi⟩
theorem GM (h:kn f c w){m:Tm}(hs:fO f.T m w')(a:nF f.T w w'):kn f { c with tm:=m } w':=by
 have b:=aG.Dj a h.Dm D;exact⟨(a.block _ h.Cx.lt (h.Cx.ne h.Dm D)).trans h.blk,h.sc.keep (a.block _ h.Dh.lt (h.Dh.ne h.Dm D)) a.size b,hs,h.cg.keep (a.block _ h.Dn.lt (h.Dn.ne h.Dm D)),h.bx.keep (a.block _ h.Dp.lt (h.Dp.ne h.Dm D)) (a.block _ h.Dq.lt (h.Dq.ne h.Dm D)) a.size b,h.gl.below ((ot.GL a).F7 h.hi h.gl.top),h.hi⟩
theorem I3 (h:kn f c w){m:Cg}(hs:eU f.G m w')(a:nF f.G w w'):kn f { c with cg:=m } w':=by
 have b:=aG.Dj a h.Dn D;exact⟨(a.block _ h.Cx.lt (h.Cx.ne h.Dn D)).trans h.blk,h.sc.keep (a.block _ h.Dh.lt (h.Dh.ne h.Dn D)) a.size b,h.tm.keep (a.block _ h.Dm.lt (h.Dm.ne h.Dn D)),hs,h.bx.keep (a.block _ h.Dp.lt (h.Dp.ne h.Dn D)) (a.block _ h.Dq.lt (h.Dq.ne h.Dn D)) a.size b,h.gl.below ((ot.Hy a).F7 h.hi h.gl.top),h.hi⟩
theorem Ik (h:kn f c w){b:Bx}(hs:ao f.X f.R 0 b w')(a:Co f.X f.R w w'):kn f { c with bx:=b } w':=by
 have e:=aG.HW a h.Dp h.Dq D D;exact⟨(a.block _ h.Cx.lt (h.Cx.ne h.Dp D) (h.Cx.ne h.Dq D)).trans h.blk,h.sc.keep (a.block _ h.Dh.lt (h.Dh.ne h.Dp D) (h.Dh.ne h.Dq D)) a.size e,h.tm.keep (a.block _ h.Dm.lt (h.Dm.ne h.Dp D) (h.Dm.ne h.Dq D)),h.cg.keep (a.block _ h.Dn.lt (h.Dn.ne h.Dp D) (h.Dn.ne h.Dq D)),hs,h.gl.below ((ot.I0 a).F7 h.hi h.gl.top),h.hi⟩
structure Hz (f g:Fp):Prop where
 C:f.C≠g.C
 S:f.S≠g.S
 T:f.T≠g.T
 G:f.G≠g.G
 X:f.X≠g.X
 R:f.R≠g.R
theorem ys (h:kn f c w)(e:ot f w w'):aG w w':=fun b a =>
 e.block b a.lt (a.ne h.Cx D) (a.ne h.Dh D) (a.ne h.Dm D) (a.ne h.Dn D) (a.ne h.Dp D) (a.ne h.Dq D)
theorem across (h:kn f c w)(k:kn g d w)(a:Hz f g)(b:ot g w w'):kn f c w' :=
 h.keep (b.F7 k.hi k.gl.top) b.size (k.ys b)
  (b.block _ h.Cx.lt a.C (h.Cx.ne k.Dh D) (h.Cx.ne k.Dm D) (h.Cx.ne k.Dn D) (h.Cx.ne k.Dp D) (h.Cx.ne k.Dq D))
  (b.block _ h.Dh.lt (h.Dh.ne k.Cx D) a.S (h.Dh.ne k.Dm D) (h.Dh.ne k.Dn D) (h.Dh.ne k.Dp D) (h.Dh.ne k.Dq D))
  (b.block _ h.Dm.lt (h.Dm.ne k.Cx D) (h.Dm.ne k.Dh D) a.T (h.Dm.ne k.Dn D) (h.Dm.ne k.Dp D) (h.Dm.ne k.Dq D))
  (b.block _ h.Dn.lt (h.Dn.ne k.Cx D) (h.Dn.ne k.Dh D) (h.Dn.ne k.Dm D) a.G (h.Dn.ne k.Dp D) (h.Dn.ne k.Dq D))
  (b.block _ h.Dp.lt (h.Dp.ne k.Cx D) (h.Dp.ne k.Dh D) (h.Dp.ne k.Dm D) (h.Dp.ne k.Dn D) a.X (h.Dp.ne k.Dq D))
  (b.block _ h.Dq.lt (h.Dq.ne k.Cx D) (h.Dq.ne k.Dh D) (h.Dq.ne k.Dm D) (h.Dq.ne k.Dn D) (h.Dq.ne k.Dp D) a.R)
end kn
end
section
open Go.ChangeShapes Go.WideShapes Go.ChangeAt Go.RowKit
theorem Bn:Tryz.prog.globalNamed "stagepost/congestion.errSize" = some 0:=by kernel_rfl
theorem Bo:(Tryz.prog.globals[0]?).map (·.type)=some 123:=by kernel_rfl
theorem Am : "*" ++ "errors.errorString" = "*errors.errorString" := by decide
theorem CN (u:TypeId)(h:Tryz.prog.typeName? 3 u=some "*errors.errorString"):u=234 :=
 typeName_ptr_named (nm := "errors.errorString") (by rw[Am];kernel_rfl) IL D u (by rw[Am];exact h)
theorem vA {W:World}(h:laidMetH Tryz.prog [("stagepost/tcpstate.triples",Rows.laid_stagepost_tcpstate_triples),("stagepost/congestion.errSize",Rows.laid_stagepost_congestion_errSize)] W):Gl W:=by
 have e:laidMet Tryz.prog [("stagepost/tcpstate.triples",Rows.laid_stagepost_tcpstate_triples),("stagepost/congestion.errSize",Rows.laid_stagepost_congestion_errSize)] W:=h
 have i:fP W:=by
  obtain⟨t,j,b⟩:=ut (g:=1) (m:=3) (t:=180) IL IL IL e;exact⟨t,j,b.trans IL⟩
 obtain⟨a,s,l,_,_,_⟩:=laid_sentinel e.tail Bn Bo Tryz.underlying123 CN Tryz.underlying234 Tryz.underlying258 Z Z Tryz.underlying9 IL IL;have k:W.cell? ⟨0,0,none⟩=some (.iface 234 (.pointer (some a))):=by simpa using World.var?_cell Bn l 0
 have n:ow a W:=⟨k,Ll k⟩;refine⟨i,⟨a,n⟩,?_⟩;obtain⟨t,j,b⟩:=i;exact(L8.1 b).1
def nt (cs:Array Value):Obj->Obj
 | .cells _ t frozen=>.cells cs t frozen
 | o=>o
noncomputable def low : Nat := (World.holding Tryz.prog default ⟨#[], #[], []⟩).heap.size
noncomputable def ka (os:Os):World :=
 let w0:=World.holding Tryz.prog os ⟨#[.cells #[.string ⟨#[115,101,103,109,101,110,116,32,115,105,122,101,32,111,117,116,32,111,102,32,114,97,110,103,101]⟩] 258],#[],[]⟩
 { w0 with heap:=(w0.heap.modify 1 (nt ib)).modify 0 (nt #[.iface 234 low]) }
end
section
open Go.RowKit Go.Shelf
theorem ai {w a b:World}(h:Below w.heap.size w a)(k:Below a.heap.size a b):Below w.heap.size w b:=h.trans (k.mono h.size)
theorem xg (l:List UInt8)(a b:Nat):(⟨l.toArray⟩:ByteArray).extract a b=⟨((l.drop a).take (b-a)).toArray⟩:=by
 apply ByteArray.ext
 rw[NP]
 simp
theorem lK (l:List UInt8)(a:Nat):(⟨l.toArray⟩:ByteArray).extract a l.length=⟨(l.drop a).toArray⟩:=by
 rw[xg,Mf JO]
theorem df (f:Fp)(c:Cn)(w:World)(h:kn f c w) :
  Calls Tryz.prog 84 #[f.C] w fun e w'=>e= .returned c.gi/\Below w.heap.size w w':=by
 have b:=h.cell 0 _ Z;have hs:=H h.sc
 go_enter Tryz.func84,Tryz.ntmps84
 go_wp2_with fail;refine(uh _ _ _ _ hs.out).mono ?_;rintro e w' ⟨rfl,a⟩;go_wp2;go_ret;exact⟨Z,a⟩
theorem aZ (f:Fp)(c:Cn)(w:World)(h:kn f c w) :
  Calls Tryz.prog 56 #[f.C] w fun e w'=>e= .returned c.next/\Below w.heap.size w w':=by
 have b:=h.cell 0 _ Z;have hs:=H h.sc
 go_enter Tryz.func56,Tryz.ntmps56
 go_wp2_with fail;refine(rq _ _ _ _ hs.out).mono ?_;rintro e w' ⟨rfl,a⟩;go_wp2;go_ret;exact⟨Z,a⟩
theorem dS (f:Fp)(c:Cn)(w:World)(h:kn f c w)(ok:c.sc.Ok) :
  Calls Tryz.prog 54 #[f.C] w fun e w'=>e= .returned c.flight/\Below w.heap.size w w':=by
 have h1:0<=c.gi:=ok.u0;have h2:c.gi<=c.next:=ok.un;have j:c.next<=1099511627776:=ok.n40;have hs:=H h;clear h
 go_enter Tryz.func54,Tryz.ntmps54
 go_wp2_with fail;refine(aZ f c _ hs.out).mono ?_;rintro e k⟨rfl,b⟩;go_wp2_with fail;refine(df f c _ (hs.out.below b)).mono ?_;rintro e l⟨rfl,a⟩;have i:=H (ai b a);clear b a;go_wp2;go_ret;exact⟨Z,i.o⟩
theorem ej (f:Fp)(c:Cn)(w:World)(h:kn f c w)(a: -1099511627776<=c.base/\c.base<=1099511627776)(b:c.held.length<=1099511627776) :
  Calls Tryz.prog 129 #[f.C] w fun e w'=>e= .returned c.last/\w'=w.drew:=by
 have i:=h.cell 3 (.string ⟨c.held.toArray⟩) Z;have j:=h.cell 4 c.base Z;have hz:(⟨c.held.toArray⟩:ByteArray).size=c.held.length:=IQ
 go_enter Tryz.func129,Tryz.ntmps129
 go_wp2
 go_region
 all_goals
  go_wp2
  go_ret;exact⟨Z,Z⟩
theorem fR (f:Fp)(c:Cn)(w:World)(h:kn f c w)(ok:c.sc.Ok)(i: -1099511627776<=c.base/\c.base<=1099511627776)(j:c.held.length<=1099511627776) :
  Calls Tryz.prog 88 #[f.C] w fun e w'=>e= .returned c.kc/\Below w.heap.size w w':=by
 have h1:0<=c.next:=LE ok.u0 ok.un;have m:c.next<=1099511627776:=ok.n40;have n: -1099511627776<=c.last/\c.last<=2199023255552:=by unfold Cn.last;omega
 have hs:=H h;clear h
 go_enter Tryz.func88,Tryz.ntmps88
 go_wp2_with fail;refine(ej f c _ hs.out i j).mono ?_;rintro e k⟨rfl,hw⟩;have a:Below w.heap.size w k:=by rw[hw];exact(L5 _ w).drew
 clear hw;go_wp2_with fail;refine(aZ f c _ (hs.out.below a)).mono ?_;rintro e p⟨rfl,b⟩;have l:=H (ai a b);clear a b;go_wp2;go_ret;exact⟨Z,l.o⟩
theorem vB (f:Fp)(c:Cn)(u:Int)(w:World)(h:kn f c w)(a: -1099511627776<=c.base/\c.base<=1099511627776)(b:c.held.length<=1099511627776)(i: -1099511627776<=u/\u<=1099511627776) :
  Calls Tryz.prog 132 #[f.C,u] w fun e w'=>e= .returned (.tuple #[])/\kn f (c.drop u) w'/\ot f w w':=by
 have j:=h.cell 3 (.string ⟨c.held.toArray⟩) Z;have k:=h.cell 4 c.base Z;have f3:=h.free 3;have l:=h.free 4;have hz:(⟨c.held.toArray⟩:ByteArray).size=c.held.length:=IQ
 have hs:=H h;clear h
 go_enter Tryz.func132,Tryz.ntmps132
 go_wp2
 go_region
 all_goals
  go_wp2
  go_end0
  rw[lK];exact⟨Z,((hs.out.set 3 _ { c with held:=c.held.drop (dI c.held c.base u).toNat } Z Z Z Z Z).set 4 _ (c.drop u) Z Z Z Z Z).drew,.DO (((nF.refl _ _).setCell 3 _).setCell 4 _).drew⟩
theorem ix (f:Fp)(c:Cn)(a v:Int)(w:World)(h:kn f c w)(ha: -1099511627776<=a/\a<=1099511627776)(b:0<=v/\v<=65535) :
  Calls Tryz.prog 101 #[f.C,a,v] w fun e w'=>e= .returned (.tuple #[])/\kn f (c.announce a v) w'/\ot f w w':=by
 have i:=h.cell 5 c.limit Z;have j:=h.cell 6 c.largest Z;have k:=h.free 5;have f6:=h.free 6;have hs:=H h;clear h
 go_enter Tryz.func101,Tryz.ntmps101
 go_wp2
 go_end0
 refine⟨Z,(hs.out.set 5 _ { c with limit:=max c.limit (a+v) } Z Z Z Z Z).set 6 _ (c.announce a v) Z Z Z Z Z,.DO (((nF.refl _ _).setCell 5 _).setCell 6 _)⟩
end
section
open Go.RowKit Go.Shelf
theorem Below.drewN' (w:World)(n:Nat):Below w.heap.size w (w.drewN n):=⟨Z,Z,Z,L6 _,fun _ _=>rfl⟩
theorem ao.drewN {B R lb:Nat}{b:Bx}{w:World}(h:ao B R lb b w)(n:Nat):ao B R lb b (w.drewN n):=h.below (Below.drewN' w n)
theorem kn.drewN {f:Fp}{c:Cn}{w:World}(h:kn f c w)(n:Nat):kn f c (w.drewN n):=h.below (Below.drewN' w n)
theorem C4 {P:Program}{f:FuncId}{args:Array Value}{w:World}{n:Nat}{v:Value}
  (h:Calls P f args (w.drewN n) fun e w'=>e= .returned v/\w'=(w.drewN n).drew.drew):Calls P f args (w.drewN n) fun e a=>e= .returned v/\∃m,a=w.drewN m :=
 h.mono fun _ _ ⟨he,hm⟩=>⟨he,n+2,hm⟩
theorem qY (f:Fp)(c:Cn)(n:Int)(w:World)(h:kn f c w) :
  Calls Tryz.prog 38 #[.pointer (some ⟨f.C,11,none⟩),n] w fun e w'=>e= .returned (c.offset n)/\Below w.heap.size w w':=by
 have a:=h.cell 12 c.A2 Z
 go_enter Tryz.func38,Tryz.ntmps38
 go_wp2_with fail;refine(gp _ _ _).mono ?_;rintro e b⟨rfl,rfl⟩;go_wp2_with fail;refine(de _ _ _).mono ?_;rintro e b⟨rfl,rfl⟩;go_wp2;go_ret;exact⟨Z,L5 _ _⟩
theorem qZ (f:Fp)(c:Cn)(n:Int)(w:World)(h:kn f c w)(b: -1099511627776<=n/\n<=4398046511104) :
  Calls Tryz.prog 112 #[.pointer (some ⟨f.C,11,none⟩),n] w fun e w'=>e= .returned (c.number n)/\Below w.heap.size w w':=by
 have a:=h.cell 12 c.A2 Z
 go_enter Tryz.func112,Tryz.ntmps112
 go_wp2_with fail;refine(gp _ _ _).mono ?_;rintro e i⟨rfl,rfl⟩;go_wp2;go_ret;exact⟨Z,L5 _ _⟩
theorem cQ (f:Fp)(c:Cn)(w:World)(h:kn f c w) :
  Calls Tryz.prog 51 #[.pointer (some ⟨f.C,11,none⟩)] w fun e w'=>e= .returned c.reached/\Below w.heap.size w w':=by
 have j:=h.cell 11 f.X Z;have b:=h.cell 15 c.ended Z;have k:=h.cell 16 c.sw Z;have l:=H h.bx;by_cases he:c.ended=true
 ·have i:=H (show c.reached=(c.bx.nx==c.sw) by unfold Cn.reached;rw[he,NE];rfl);rw[he]at b;rw[i.o];clear he i
  go_enter Tryz.func51,Tryz.ntmps51
  go_wp2_with fail
  go_quiet ((go_at_call 83;exact qs (co _ _ _ _ _ (l.out.drewN _))))
  all_goals
   go_wp2
   go_ret;exact⟨Z,Below.drewN' _ _⟩
 have a:c.ended=false:=by simpa using he
 have i:=H (show c.reached=false by unfold Cn.reached;rw[a,Bool.false_and]);rw[a]at b;rw[i.o];clear he a i
 go_enter Tryz.func51,Tryz.ntmps51
 go_wp2_with fail
 go_quiet (fail)
 all_goals
  go_wp2
  go_ret;exact⟨Z,Below.drewN' _ _⟩
theorem cK (f:Fp)(c:Cn)(w:World)(h:kn f c w) :
  Calls Tryz.prog 44 #[.pointer (some ⟨f.C,11,none⟩)] w fun e w'=>e= .returned (.tuple #[])/\kn f c.i2 w'/\ot f w w':=by
 have b:=h.free 18;have a:=h.cell 18 c.pend Z
 go_enter Tryz.func44,Tryz.ntmps44
 go_wp2
 go_end0
 exact⟨Z,h.set 18 _ c.i2 Z Z Z Z Z,.DO ((nF.refl _ _).setCell 18 _)⟩
theorem fg (f:Fp)(c:Cn)(w:World)(h:kn f c w)(ok:c.bx.Ok) :
  Calls Tryz.prog 41 #[.pointer (some ⟨f.C,11,none⟩)] w fun e w'=>e= .returned c.expected/\Below w.heap.size w w':=by
 have j:=h.cell 11 f.X Z;have h1:=ok.E1;have h2:=ok.Cv;have p:=ok.Du;have q:=ok.small;have hs:=H h;by_cases i:c.reached=true
 ·have k:=H (show c.expected=c.bx.nx+1 by unfold Cn.expected;rw[L9 i]);rw[k.o];clear k
  go_enter Tryz.func41,Tryz.ntmps41
  go_wp2_with fail;refine(cQ f c _ hs.out).mono ?_;rintro e m⟨rfl,b⟩;rw[i];have a:=H (hs.out.below b);have j:=a.out.cell 11 f.X Z;have n:=H a.out.bx;have b:=H b;clear i;go_wp2_with fail;refine(co _ _ _ _ _ n.out).mono ?_;rintro e m⟨rfl,rfl⟩;go_wp2;go_ret;exact⟨Z,b.out⟩
 have l:c.reached=false:=P9
 have k:=H (show c.expected=c.bx.nx by unfold Cn.expected;rw[L7 i]);rw[k.o];clear k i
 go_enter Tryz.func41,Tryz.ntmps41
 go_wp2_with fail;refine(cQ f c _ hs.out).mono ?_;rintro e m⟨rfl,b⟩;rw[l];have a:=H (hs.out.below b);have j:=a.out.cell 11 f.X Z;have n:=H a.out.bx;have b:=H b;clear l;go_wp2_with fail;refine(co _ _ _ _ _ n.out).mono ?_;rintro e m⟨rfl,rfl⟩;go_wp2;go_ret;exact⟨Z,b.out⟩
theorem vC {a b:Bool}(h:a=b):Ending.returned a= .returned b:=by rw[h]
theorem Bp {a b:Int}{c d:Bool}(h:a=b)(k:c=d):Ending.returned (.tuple #[a,c])= .returned (.tuple #[b,d]):=by rw[h,k]
theorem gr (f:Fp)(c:Cn)(m:Int)(w:World)(h:kn f c w)(ok:c.bx.Ok)(ha: -1099511627776<=c.ann/\c.ann<=2199023255552)(p:0<=c.room/\c.room<=8192) :
  Calls Tryz.prog 93 #[.pointer (some ⟨f.C,11,none⟩),m] w fun e w'=>e= .returned (.tuple #[c.most,(c.C7 m)])/\Below w.heap.size w w':=by
 have b:=h.cell 11 f.X Z;have i:=h.cell 13 c.room Z;have j:=h.cell 14 c.ann Z;have h1:=ok.E1;have h2:=ok.Cv;have q:=ok.Du;have r:=ok.small;have hs:=H h;have k:=H ok;have a:=H (show c.most=c.bx.rd+c.bx.ring.length from Z);by_cases l:c.ann<c.bx.nx+(c.bx.rd+c.bx.ring.length-c.bx.nx)
 focus
  go_enter Tryz.func93,Tryz.ntmps93
 rotate_left 1
 focus
  have n:decide (c.ann<c.bx.nx+(c.bx.rd+c.bx.ring.length-c.bx.nx))=false:=Lh l
  go_enter Tryz.func93,Tryz.ntmps93
 all_goals
  go_wp2_with fail
  go_quiet ((first | (go_at_call 83;exact qs (co _ _ _ _ _ (hs.out.bx.drewN _))) | (go_at_call 141;exact C4 (xG _ _ _ _ _ (hs.out.bx.drewN _) k.o))))
  all_goals
   go_wp2
   go_quiet (fail)
   all_goals
    go_wp2
    go_ret2
    refine⟨Bp (by rw[a.o];omega) ?_,⟨Z,Z,Z,L6 _,fun _ _=>rfl⟩⟩;unfold Cn.C7;rw[a.o]
    first | exact N9.2 O | exact(Lh O).symm
theorem pC (f:Fp)(c:Cn)(off n:Int)(w:World)(h:kn f c w)(ok:c.bx.Ok)(l: -2147483648<=off/\off<=2147483647)(m:0<=n/\n<=2048)(ha: -1099511627776<=c.ann/\c.ann<=2199023255552) :
  Calls Tryz.prog 39 #[.pointer (some ⟨f.C,11,none⟩),off,n] w fun e w'=>e= .returned (c.accepts off n)/\Below w.heap.size w w':=by
 have h1:=ok.E1;have h2:=ok.Cv;have o:=ok.Du;have p:=ok.small;have hs:=H h;have q:=H ok;have r:c.bx.nx<=c.expected/\c.expected<=c.bx.nx+1:=by unfold Cn.expected;split <;> omega
 go_enter Tryz.func39,Tryz.ntmps39
 go_wp2_with fail;refine(fg f c _ hs.out ok).mono ?_;rintro e s⟨rfl,b⟩;have a:=H (hs.out.below b);have j:=a.out.cell 11 f.X Z;have k:=a.out.cell 14 c.ann Z;have i:=H b;clear b;go_wp2_with fail
 go_quiet ((go_at_call 83;exact qs (co _ _ _ _ _ (a.out.bx.drewN _))))
 all_goals
  go_wp2
  all_goals
   go_ret;refine⟨vC ?_,i.trans (Below.drewN' _ _ |>.mono i.size)⟩;unfold Cn.accepts
   (repeat' split) <;> simp_all <;> omega
end
section
open Go.RowKit Go.Shelf
theorem BL (s e:Int)(hs:0<=s/\s<=9)(he:1<=e/\e<=9):xW s e=(match gS s e with | none=> -1 | some n=>n):=by
 obtain⟨a,rfl⟩:=M2 hs.1;obtain⟨b,rfl⟩:=M2 (show 0<=e by omega);have h:∀a:Nat,a<10->∀b:Nat,b<10->1<=b->xW (a:Int) (b:Int)=(match gS (a:Int) (b:Int)with | none=> -1 | some n=>n):=D
 exact h a O b O O
theorem dP (now t:Int)(w:World) :
  Calls Tryz.prog 65 #[now,t] w fun e w'=>e= .returned (.agg #[true,now,t])/\Below w.heap.size w w':=by
 go_enter Tryz.func65,Tryz.ntmps65
 go_wp2
 refine Lo (v:=.agg #[true,now,t]) (M6 (p:=4) (ty:=81) Z _ _ w.heap.size 81 _ (0,0) _ IO (Ls _ _) Tryz.underlying81 Z IL) Z ⟨Z,(L5 _ _).alloc (L6 _) _⟩
theorem xh {s n:Int}(hs:aI s)(a:aI n)(h:s<=n):IntKind.u64.wrap (IntKind.u64.wrap n-IntKind.u64.wrap s)=n-s:=by
 unfold aI at hs a;rw[Na,Na,Na];omega
theorem jk (a:Al)(now:Int)(w:World)(h1:aI now)(h2:aI a.since)(j:0<=a.ticks/\a.ticks<=1000) :
  Calls Tryz.prog 72 #[.agg #[a.set,a.since,a.ticks],now] w fun e w'=>e= .returned (a.due now)/\Below w.heap.size w w':=by
 have i:=H (fun h=>xh h2 h1 h);unfold aI at h1 h2;obtain⟨s,b,t⟩:=a;dsimp only at h2 j i|-
 go_enter Tryz.func72,Tryz.ntmps72
 go_wp2
 all_goals
  go_ret;refine⟨vC ?_,(L5 _ _).alloc (L6 _) _⟩;unfold Al.due;dsimp only
  first | (rw[i.o O];simp_all;done) | (simp_all;done) | (simp_all;omega)
theorem bh (f:Fp)(c:Cn)(w:World)(h:kn f c w) :
  Calls Tryz.prog 35 #[f.C] w fun e w'=>e= .returned (decide (c.st=0))/\Below w.heap.size w w':=by
 have a:=h.cell 28 c.st Z
 go_enter Tryz.func35,Tryz.ntmps35
 go_wp2;go_ret;exact⟨Z,L5 _ _⟩
theorem gt (f:Fp)(c:Cn)(w:World)(h:kn f c w) :
  Calls Tryz.prog 92 #[f.C] w fun e w'=>e= .returned c.failure/\Below w.heap.size w w':=by
 have a:=h.cell 29 c.err Z
 go_enter Tryz.func92,Tryz.ntmps92
 go_wp2
 all_goals
  go_ret;refine⟨cH ?_,L5 _ _⟩;unfold Cn.failure;split <;> simp_all
theorem bS (f:Fp)(c:Cn)(w:World)(h:kn f c w) :
  Calls Tryz.prog 18 #[f.C] w fun e w'=>e= .returned c.st/\w=w':=by
 have a:=h.cell 28 c.st Z
 go_enter Tryz.func18,Tryz.ntmps18
 go_wp2
 go_ret;exact⟨Z,Z⟩
theorem qc (f:Fp)(c:Cn)(w:World)(h:kn f c w) :
  Calls Tryz.prog 25 #[f.C] w fun e w'=>e= .returned c.err/\w=w':=by
 have a:=h.cell 29 c.err Z
 go_enter Tryz.func25,Tryz.ntmps25
 go_wp2
 go_ret;exact⟨Z,Z⟩
theorem mR (f:Fp)(c:Cn)(w:World)(h:kn f c w) :
  Calls Tryz.prog 86 #[f.C] w fun e w'=>e= .returned (ae c.st)/\Below w.heap.size w w':=by
 have a:=h.cell 28 c.st Z
 go_enter Tryz.func86,Tryz.ntmps86
 go_wp2
 all_goals
  go_ret;refine⟨vC ?_,L5 _ _⟩;unfold ae
  simp_all
end
section
open Go.RowKit Go.Shelf
set_option maxHeartbeats 2000000 in
theorem cR (f:Fp) (c:Cn) (now i:Int) (w:World) (h:kn f c w) (hs:0<=c.st/\c.st<=9) (he:1<=i/\i<=9) :
  Calls Tryz.prog 30 #[f.C,now,i] w fun e w'=>e= .returned (.tuple #[])/\kn f (c.step now i) w'/\ot f w w':=by
 have q:=h.cell 28 c.st Z;have k:=BL c.st i hs he;have G:=H h
 cases hx:gS c.st i with
 | none =>
  rw[hx]at k;have l:=H (show c.step now i=c by unfold Cn.step;rw[hx]);rw[l.o]
  go_enter Tryz.func30,Tryz.ntmps30
  go_wp2_with fail;refine(qU c.st i _ h.gl.Ij).mono ?_;rintro e z⟨rfl,j⟩;have m:xX c.st i=170:=by unfold xX;rw[L9 k]
  rw[m];go_wp2_with fail;exact Lo (LY Z _ _ _) Z ⟨Z,h.below j,.Da j⟩
 | some n =>
  rw[hx]at k;have r:n≠ -1:=by have:=ry hx;omega
  go_enter Tryz.func30,Tryz.ntmps30
  go_wp2_with fail;refine(qU c.st i _ h.gl.Ij).mono ?_;rintro e z⟨rfl,j⟩;have m:xX c.st i=0:=by unfold xX;rw[L7 (by rw[k];exact r)]
  have s:zr c.st i=n:=by unfold zr;rw[L7 (by rw[k];exact r),k]
  rw[m,s];have b:=H (h.below j);have t:=H j;have A:=b.out.free 28;have B:=b.out.free 34;have E:=b.out.free 35;have p:=b.out.free 36;have q:=b.out.cell 28 c.st Z;clear j k m s;by_cases u:n=9
  ·subst u;go_wp2_with fail;refine(dP _ _ _).mono ?_;rintro e I⟨rfl,j⟩;have a:=H (b.out.below j);have F:=H j;have A:=a.out.free 28;have B:=a.out.free 34;have E:=a.out.free 35;have p:=a.out.free 36;have q:=a.out.cell 28 c.st Z;have J:=a.out.cell 34 c.per.set Z;have K:=a.out.cell 35 c.per.since Z;have L:=a.out.cell 36 c.per.ticks Z;go_wp2_with fail
   go_end0
   have l:c.step now i={ c with per:=.Ck now 60,st:=9 }:=by unfold Cn.step;rw[hx];rfl
   rw[l];exact⟨Z,(((a.out.set 34 _ { c with per:=⟨true,c.per.since,c.per.ticks⟩ } Z Z Z Z Z).set 35 _ { c with per:=⟨true,now,c.per.ticks⟩ } Z Z Z Z Z).set 36 _ { c with per:=.Ck now 60 } Z Z Z Z Z).set 28 _ _ Z Z Z Z Z,(ot.Da (ai t.o F.o)).trans (.DO ((((nF.refl _ _).setCell 34 _).setCell 35 _).setCell 36 _ |>.setCell 28 _))⟩
  go_wp2_with fail
  go_end0
  have l:c.step now i={ c with st:=n }:=by unfold Cn.step;rw[hx];dsimp only;rw[L7 u]
  rw[l];exact⟨Z,b.out.set 28 _ _ Z Z Z Z Z,(ot.Da t.o).trans (.DO ((nF.refl _ _).setCell 28 _))⟩
theorem eN (f:Fp)(c:Cn)(now a j:Int)(w:World)(h:kn f c w)(hs:0<=c.st/\c.st<=9)(he:1<=a/\a<=9) :
  Calls Tryz.prog 42 #[f.C,now,a,j] w fun e w'=>e= .returned (.tuple #[])/\kn f (c.finish now a j) w'/\ot f w w':=by
 go_enter Tryz.func42,Tryz.ntmps42
 go_wp2_with fail;refine(cR f c now a _ h hs he).mono ?_;rintro e m⟨rfl,i,b⟩;have k:=H i;have l:=H b;have n:=i.free 29;have o:=i.cell 29 (c.step now a).err Z;clear i b;go_wp2_with fail
 go_end0
 exact⟨Z,k.set 29 _ (c.finish now a j) Z Z Z Z Z,l.trans (.DO ((nF.refl _ _).setCell 29 _))⟩
theorem qd (f:Fp)(c:Cn)(m:Int)(w:World)(h:kn f c w)(ok:c.bx.Ok)(ha: -1099511627776<=c.ann/\c.ann<=2199023255552)(q:0<=c.room/\c.room<=8192) :
  Calls Tryz.prog 113 #[.pointer (some ⟨f.C,11,none⟩),m] w fun e w'=>e= .returned (c.raised m)/\Below w.heap.size w w':=by
 have hs:=H h;by_cases i:c.C7 m=true
 ·have j:=H (show c.raised m=c.most by unfold Cn.raised;rw[L9 i]);rw[j.o];clear j
  go_enter Tryz.func113,Tryz.ntmps113
  go_wp2_with fail;refine(gr f c m _ hs.out ok ha q).mono ?_;rintro e r⟨rfl,b⟩;have a:=H (hs.out.below b);have n:=a.out.cell 11 f.X Z;have p:=a.out.cell 14 c.ann Z;have l:=H b;clear b;rw[i];clear i;go_wp2;go_ret;exact⟨Z,l.o⟩
 have j:=H (show c.raised m=max c.ann c.bx.nx by unfold Cn.raised;rw[L7 i]);have k:c.C7 m=false:=P9
 rw[j.o];clear j
 go_enter Tryz.func113,Tryz.ntmps113
 go_wp2_with fail;refine(gr f c m _ hs.out ok ha q).mono ?_;rintro e r⟨rfl,b⟩;have a:=H (hs.out.below b);have n:=a.out.cell 11 f.X Z;have p:=a.out.cell 14 c.ann Z;have l:=H b;clear b;rw[k];clear i k;go_wp2_with fail
 go_quiet ((go_at_call 83;exact qs (co _ _ _ _ _ (a.out.bx.drewN _))))
 all_goals
  go_wp2
  go_ret;exact⟨Z,l.trans ((Below.drewN' _ _).mono l.size)⟩
theorem pD (f:Fp)(c:Cn)(now:Int)(w:World)(h:kn f c w) :
  Calls Tryz.prog 140 #[.pointer (some ⟨f.C,11,none⟩),now] w fun e w'=>e= .returned (.tuple #[])/\kn f (c.xa now) w'/\ot f w w':=by
 have k:=h.cell 18 c.pend Z;have t:=h.free 18;have hs:=H h;by_cases l:c.pend=0
 ·have b:=H (show c.xa now={ c with pend:=1,t8:=.Ck now 2 } by unfold Cn.xa;rw[L7 O]);rw[b.o];clear b
  go_enter Tryz.func140,Tryz.ntmps140
  go_wp2_with fail;have h1:kn f { c with pend:=1 } (w.setCell ⟨f.C,18,none⟩ (1:Int)):=h.set 18 _ _ Z Z Z Z Z;refine(dP _ _ _).mono ?_;rintro e u⟨rfl,i⟩;have a:=H (h1.below i);have m:=H ((ot.DO (f:=f) ((nF.refl f.C w).setCell 18 (1:Int))).trans (.Da i));have n:=a.out.free 19;have z:=a.out.free 20;have A:=a.out.free 21;have p:=a.out.cell 19 c.t8.set Z;have q:=a.out.cell 20 c.t8.since Z;have r:=a.out.cell 21 c.t8.ticks Z;clear h1 i;go_wp2_with fail
  go_end0
  exact⟨Z,((a.out.set 19 _ { c with pend:=1,t8:=⟨true,c.t8.since,c.t8.ticks⟩ } Z Z Z Z Z).set 20 _ { c with pend:=1,t8:=⟨true,now,c.t8.ticks⟩ } Z Z Z Z Z).set 21 _ { c with pend:=1,t8:=.Ck now 2 } Z Z Z Z Z,m.trans (.DO ((((nF.refl _ _).setCell 19 _).setCell 20 _).setCell 21 _))⟩
 have b:=H (show c.xa now=c.i2 by unfold Cn.xa;rw[L9 l];rfl);rw[b.o];clear b
 go_enter Tryz.func140,Tryz.ntmps140
 go_wp2_with fail;refine(cK f c _ hs.out).mono ?_;rintro e B⟨rfl,s,j⟩;go_wp2_with fail;exact Lo (LY Z _ _ _) Z ⟨Z,s,j⟩
end
section
open Go.RowKit Go.Shelf
def dY (g:Sg)(a:Option Addr)(cap:Nat):Value:=.agg #[g.fp,g.tp,g.sq,g.ak,g.syn,g.fin,g.te,g.has,g.win,g.go,g.ke,.slice a g.bl.length cap,.string ⟨g.s.toArray⟩]
theorem gu (l:List UInt8)(a b:Nat):(⟨l.toArray⟩:ByteArray).extract a b=⟨((l.take b).drop a).toArray⟩:=by rw[xg,List.drop_take]
theorem jN (f:Fp)(c:Cn)(n:Int)(w:World)(h:kn f c w) :
  Calls Tryz.prog 80 #[f.C,n] w fun e w'=>e= .returned (dY (c.x3 n) none 0)/\Below w.heap.size w w':=by
 have a:=h.lt;have b:f.C≠w.heap.size:=O
 have i:=h.cell 22 c.cf.fp Z;have j:=h.cell 23 c.cf.tp Z
 go_enter Tryz.func80,Tryz.ntmps80
 go_wp2
 go_region
 all_goals
  go_wp2
  refine Lo (v:=dY (c.x3 n) none 0) (M6 (p:=4) (ty:=53) Z _ _ w.heap.size 53 _ (0,0) _ IO (Ls _ _) Tryz.underlying53 Z IL) Z ⟨Z,((L5 _ _).alloc (L6 _) _).drew⟩
theorem mS (w:World)(o p:Obj):((w.alloc o).alloc p).heap[w.heap.size+1]? =some p:=by
 have:=Ls (w.alloc o) p
 rwa [M1]at this
theorem jl (f:Fp)(c:Cn)(g:Sg)(a:Option Addr)(cap:Nat)(off:Int)(w:World)(h:kn f c w) :
  Calls Tryz.prog 70 #[f.C,dY g a cap,off] w fun e w'=>e= .returned (dY (c.address g off) a cap)/\Below w.heap.size w w':=by
 have b:=h.lt;have i:f.C≠w.heap.size:=O
 have j:=h.cell 13 c.room Z;have q:=h.cell 22 c.cf.fp Z;have r:=h.cell 23 c.cf.tp Z;have s:=h.cell 24 c.cf.ki Z;obtain⟨g1,t,u,z,k,A,B,E,F,l,m,n,o⟩:=g
 cases k
 all_goals
  unfold dY;dsimp only
  go_enter Tryz.func70,Tryz.ntmps70
  go_wp2_with fail;refine(gp _ _ _).mono ?_;rintro e G⟨rfl,rfl⟩;go_wp2_with fail
 ·refine Lo (M6 (p:=6) (ty:=53) Z _ _ (w.heap.size+1) 53 _ (0,0) _ IO (mS _ _ _) Tryz.underlying53 Z IL) Z ⟨Z,((L5 _ _).alloc (L6 _) _).alloc IK _⟩
 refine Lo (M6 (p:=6) (ty:=53) Z _ _ (w.heap.size+1) 53 _ (0,0) _ IO (mS _ _ _) Tryz.underlying53 Z IL) Z ⟨Z,((L5 _ _).alloc (L6 _) _).alloc IK _⟩
end
section
open Go.RowKit Go.Shelf
set_option maxHeartbeats 1000000 in
theorem gv (f:Fp) (c:Cn) (w:World) (h:kn f c w) :
  Calls Tryz.prog 95 #[f.C] w fun e w'=>e= .returned c.refusal/\Below w.heap.size w w':=by
 have hs:=H h
 go_enter Tryz.func95,Tryz.ntmps95
 go_wp2_with fail;refine(bh f c _ hs.out).mono ?_;rintro e l⟨rfl,b⟩;have a:=H (hs.out.below b);have k:=H b;have m:=a.out.cell 9 c.shut Z;have n:=a.out.cell 28 c.st Z;clear b;by_cases h0:c.st=0
 ·have j:=H (show c.refusal=c.failure by unfold Cn.refusal;rw[L9 h0]);have i:decide (c.st=0)=true:=Le h0;rw[i];clear i h0;go_wp2_with fail;refine(gt f c _ a.out).mono ?_;rintro e p⟨rfl,b⟩;go_wp2;go_ret;exact⟨by rw[<-j.o];rfl,ai k.o b⟩
 have j:=H (show c.refusal=if c.shut=false/\(c.st=1\/c.st=2\/c.st=3\/c.st=6)then 0 else 183 by unfold Cn.refusal;rw[L7 h0]);have i:decide (c.st=0)=false:=Lh h0;rw[i];clear i;go_wp2_with fail
 all_goals
  go_ret;refine⟨cH ?_,k.o⟩;rw[j.o]
  simp_all
theorem sA (f:Fp)(c:Cn)(w:World)(h:kn f c w)(m:c.held.length<=1099511627776)(n:0<=c.cf.keep/\c.cf.keep<=1099511627776) :
  Calls Tryz.prog 96 #[f.C] w fun e w'=>e= .returned c.space/\Below w.heap.size w w':=by
 have hz:(⟨c.held.toArray⟩:ByteArray).size=c.held.length:=IQ
 have hs:=H h;by_cases j:c.refusal=0
 ·have a:=H (show c.space=max 0 (c.cf.keep-c.held.length) by unfold Cn.space;rw[L7 O]);rw[a.o];clear a
  go_enter Tryz.func96,Tryz.ntmps96
  go_wp2_with fail;refine(gv f c _ hs.out).mono ?_;rintro e l⟨rfl,b⟩;rw[j];have i:=H (hs.out.below b);have k:=H b;have p:=i.out.cell 3 (.string ⟨c.held.toArray⟩) Z;have an:=i.out.cell 27 c.cf.keep Z;clear b j;go_wp2_with fail
  go_region
  all_goals
   go_wp2
   go_ret;exact⟨Z,k.trans ((Below.drewN' _ 1).mono k.size)⟩
 have a:=H (show c.space=0 by unfold Cn.space;rw[L9 j]);rw[a.o];clear a
 go_enter Tryz.func96,Tryz.ntmps96
 go_wp2_with fail;refine(gv f c _ hs.out).mono ?_;rintro e l⟨rfl,b⟩;go_wp2;go_ret;exact⟨Z,b⟩
end
section
open Go.RowKit Go.Shelf
abbrev cP := Sg × Option Addr × Nat
def aX (x:cP):List Value:=[x.1.fp,x.1.tp,x.1.sq,x.1.ak,x.1.syn,x.1.fin,x.1.te,x.1.has,x.1.win,x.1.go,x.1.ke,.slice x.2.1 x.1.bl.length x.2.2,.string ⟨x.1.s.toArray⟩]
def eO (L:List cP):List Value:=L.flatMap aX
theorem pF (A B:List cP):eO (A++B)=eO A++eO B:=MD ..
theorem pG (L:List cP):(eO L).length=L.length*13:=by
 induction L with
 | nil=>rfl
 | cons x L a=>show(aX x++eO L).length=_;rw[Lc,a,LC];show 13+_=_;omega
theorem vD (L:List cP)(i:Nat)(h:i<L.length)(j:Nat)(b:j<13):(eO L)[i*13+j]? =(aX L[i])[j]? :=by
 induction L generalizing i with
 | nil=>simp at h
 | cons x L a =>
  show(aX x++eO L)[i*13+j]? =_
  cases i with
  | zero=>rw[Mo (by show 0*13+j<13;omega)];simp
  | succ i =>
   rw[Mk (by show 13<=_;omega)];rw[show(i+1)*13+j-(aX x).length=i*13+j by show _-13=_;omega]
   simpa using a i IY
theorem vE (L:List cP):∀u∈eO L,u.oneCell'=true:=by
 intro u a;obtain⟨x,_,h⟩:=List.mem_flatMap.1 a
 simp[aX]at h
 rcases h with rfl | rfl | rfl | rfl | rfl | rfl | rfl | rfl | rfl | rfl | rfl | rfl | rfl <;> rfl
theorem qe:(Tryz.prog.info? 53).map (fun i=>(i.zero,i.size,i.bytes))=some (some (.agg #[(0:Int),(0:Int),(0:Int),(0:Int),false,false,false,false,(0:Int),(0:Int),false,.slice none 0 0,.string ⟨#[]⟩]),13,104):=by kernel_rfl
def bE (w:World)(a:Option Addr)(L:List Sp):Prop:=sT w w.heap.size a L/\(0<L.length->∀b,a=some b->dW w b.block 149)
theorem bE.nil (w:World)(a:Option Addr):bE w a []:=⟨⟨IK,fun h=>by simp at h⟩,fun h=>by simp at h⟩
theorem bE.keep {w w':World}{a:Option Addr}{L:List Sp}(h:bE w a L)(hs:w.heap.size<=w'.heap.size)(b:aG w w'):bE w' a L :=
 ⟨h.1.keep h.2 hs b,fun i j e=>(h.2 i j e).of (b _ (h.2 i j e))⟩
def cI (w:World)(base:Nat)(v:Value)(L:List cP):Prop:=w.ownsRow base 53 13 v L.length (eO L)/\∀x∈L,bE w x.2.1 x.1.bl
def aL (w:World)(base:Nat)(v:Value)(L:List Sg):Prop:=∃M:List cP,M.map (·.1)=L/\cI w base v M
theorem cI.nil (w:World)(base:Nat):cI w base (.slice none 0 0) []:=⟨Ny _ _ _ _,fun _ h=>by simp at h⟩
theorem aL.nil (w:World)(base:Nat):aL w base (.slice none 0 0) []:=⟨[],Z,cI.nil w base⟩
theorem cI.lt {w:World}{base:Nat}{v:Value}{L:List cP}(h:cI w base v L):∀k,v.ownBlock=some k->base<=k/\k<w.heap.size:=MH h.1
theorem cI.ty {w:World}{base:Nat}{v:Value}{L:List cP}(h:cI w base v L):∀k,v.ownBlock=some k->dW w k 53:=by
 rcases h.1.2 with⟨rfl,l⟩ | ⟨g,a,b,rfl,i,j,r⟩
 ·intro k e;cases e
 intro k e;cases e;exact⟨_,_,j⟩
theorem cI.keep {w w':World}{base:Nat}{v:Value}{L:List cP}(h:cI w base v L)(hs:w.heap.size<=w'.heap.size)(i:aG w w')(j:∀k,v.ownBlock=some k->w'.heap[k]? =w.heap[k]?):cI w' base v L:=by
 refine⟨⟨h.1.1,?_⟩,fun x l=>(h.2 x l).keep hs i⟩
 rcases h.1.2 with m | ⟨g,a,b,rfl,e,n,r⟩
 ·exact .inl m
 exact .inr ⟨g,a,b,Z,e,(j g Z).trans n,r⟩
theorem cI.below {w w':World}{base:Nat}{v:Value}{L:List cP}(h:cI w base v L)(a:Below w.heap.size w w'):cI w' base v L :=
 h.keep a.size (.below a) (fun k e=>a.block k (h.lt k e).2)
theorem cI.mono {w:World}{base a:Nat}{v:Value}{L:List cP}(h:cI w base v L)(j:a<=base):cI w a v L:=by
 refine⟨⟨h.1.1,?_⟩,h.2⟩
 rcases h.1.2 with h | ⟨g,b,e,k,i,r⟩
 ·exact .inl h
 exact .inr ⟨g,b,e,k,La j i,r⟩
theorem aL.below {w w':World}{base:Nat}{v:Value}{L:List Sg}(h:aL w base v L)(a:Below w.heap.size w w'):aL w' base v L:=by
 obtain⟨M,e,h⟩:=h;exact⟨M,e,h.below a⟩
theorem aL.mono {w:World}{base a:Nat}{v:Value}{L:List Sg}(h:aL w base v L)(b:a<=base):aL w a v L:=by
 obtain⟨M,e,h⟩:=h;exact⟨M,e,h.mono b⟩
theorem cI.val {w:World}{base:Nat}{v:Value}{L:List cP}(h:cI w base v L):∃a cap,v= .slice a L.length cap/\L.length<=cap/\∀b,a=some b->b=⟨b.block,0,none⟩:=by
 rcases h.1.2 with⟨rfl,k⟩ | ⟨g,cap,l,m,n,q,i,o,p,j⟩
 ·exact⟨none,0,by rw[k],O,fun _ e=>by cases e⟩
 exact⟨_,cap,m,i,fun _ e=>by cases e;rfl⟩
theorem cI.cells {w:World}{base:Nat}{v:Value}{L:List cP}(h:cI w base v L)(l:0<L.length) :
  ∃g cap,v= .slice (some ⟨g,0,none⟩) L.length cap/\base<=g/\g<w.heap.size/\L.length<=cap/\∀j u,(eO L)[j]? =some u->w.cell? ((⟨g,0,none⟩:Addr).add j)=some u:=by
 rcases h.1.2 with⟨rfl,m⟩ | ⟨g,cap,e,rfl,a,i,b,r⟩
 ·omega
 exact⟨g,cap,Z,a,(L8.1 i).1,b,fun j u k=>Nb h.1 (g:=g) Z j u k⟩
theorem cI.ys {w w':World}{base:Nat}{v:Value}{L:List cP}(h:cI w base v L)(i:w.grownBy w' v.ownBlock):aG w w':=fun b a =>
 i.block b a.lt (fun e=>(a.ne (h.ty b e.symm) D) Z)
theorem jO (w:World){l:Array Oper}{rest:List Oper}{o:Oper}{a:Act}{Q:Exit->Act->World->Prop}(n:o.guard=none)(s x:Operand)
  (z:o.op= .call { callee:=.builtin .append,args:= #[s,x],argTypes:= #[44,44] })(base:Nat)
  (v:Value)(L:List cP)(hs:a.eval s=v)(e:cI w base v L)
  (b off c:Nat)(M:List cP)(A:a.eval x= .slice (some ⟨b,off,none⟩) M.length c)(B:∀j u,(eO M)[j]? =some u->w.cell? ((⟨b,off,none⟩:Addr).add j)=some u)(C:∀y∈M,bE w y.2.1 y.1.bl)(J:L.length+M.length<=1300000000000)(i:base<=w.heap.size)
  (h:∀v' w',cI w' base v' (L++M)->w.grownBy w' v.ownBlock->(v'.ownBlock=v.ownBlock\/∃k,v'.ownBlock=some k/\w.heap.size<=k)->wpList Tryz.prog l Q rest (a.put o.dst v') w'):wpList Tryz.prog l Q (o::rest) a w:=by
 obtain⟨E,hi,p,q,r⟩:=MJ qe
 obtain⟨v',w',F,h2,m,G⟩:=bY (P:=Tryz.prog) w base 44 o.type 53 E _ 13 104 Tryz.underlying44 hi p q r Z (by decide) v L.length (eO L) e.1 ⟨b,off,none⟩ M.length c (eO M) (pG M)
  B (vE M) (by unfold maxLen;omega) (by omega) i
 refine NG n fun K I=> ?_;unfold Oper.wp execOp;simp only[z,resolve,invoke,builtin,MX,MW,MB,MI,M9,Ms,hs,A,F];have t:=e.ys m;refine I _ _ (h v' w' ⟨?_,fun y hy=> ?_⟩ m G)
 ·rw[Lc,pF];exact h2
 rcases LH.1 hy with hy | hy
 ·exact(e.2 y hy).keep m.size t
 exact(C y hy).keep m.size t
theorem jP (w:World){b:Array Oper}{rest:List Oper}{o:Oper}{a:Act}{Q:Exit->Act->World->Prop}(j:o.guard=none)(s x:Operand)
  (m:o.op= .call { callee:=.builtin .append,args:= #[s,x],argTypes:= #[44,44] })(base:Nat)
  (v:Value)(L:List cP)(hs:a.eval s=v)(e:cI w base v L)(l:Option Addr)(c:Nat)(n:a.eval x= .slice l 0 c)
  (h:wpList Tryz.prog b Q rest (a.put o.dst v) w):wpList Tryz.prog b Q (o::rest) a w:=by
 obtain⟨p,k,rfl,i,-⟩:=e.val;obtain⟨q,hi,-,-,-⟩:=MJ qe;have r:=lV (P:=Tryz.prog) w 44 o.type 53 q hi Tryz.underlying44 p L.length k i l c;refine NG j fun K t=> ?_;unfold Oper.wp execOp;simp only[m,resolve,invoke,builtin,MX,MW,MB,MI,M9,Ms,hs,n,r];exact t _ _ h
def zw (w:World)(base:Nat)(v:Value)(L:List cP)(e:Ending)(w':World):Prop :=
 ∃v',e= .returned v'/\cI w' base v' L/\w.grownBy w' v.ownBlock/\(v'.ownBlock=v.ownBlock\/∃k,v'.ownBlock=some k/\w.heap.size<=k)
theorem cN (w:World)(base:Nat)(v:Value)(L:List cP)(e:cI w base v L)(b off c:Nat)(M:List cP)(h:∀j u,(eO M)[j]? =some u->w.cell? ((⟨b,off,none⟩:Addr).add j)=some u)(i:∀y∈M,bE w y.2.1 y.1.bl)(k:L.length+M.length<=1300000000000)(a:base<=w.heap.size) :
  Calls Tryz.prog 31 #[v,.slice (some ⟨b,off,none⟩) M.length c] w (zw w base v (L++M)):=by
 go_enter Tryz.func31,Tryz.ntmps31
 go_wp2_with (at_builtin;refine jO _ Z _ _ Z base _ L Z e b off c M Z h i k a ?_)
 intro v' m h1 h2 l;go_wp2;go_ret;exact⟨v',Z,h1,h2,l⟩
theorem vF (w:World)(base:Nat)(v:Value)(L:List cP)(a:cI w base v L)(b:Option Addr)(c:Nat) :
  Calls Tryz.prog 31 #[v,.slice b 0 c] w (fun e w'=>e= .returned v/\w=w'):=by
 go_enter Tryz.func31,Tryz.ntmps31
 go_wp2_with (at_builtin;refine jP _ Z _ _ Z base _ L Z a b c Z ?_)
 go_wp2;go_ret;exact⟨Z,Z⟩
theorem bj {w:World}{b:Nat}{t:TypeId}{a:Nat×Nat}{x:cP}(h:w.heap[b]? =some (.cells (aX x).toArray t a)):∀j u,(eO [x])[j]? =some u->w.cell? ((⟨b,0,none⟩:Addr).add j)=some u:=by
 intro j u e;rw[Mw,MQ,Lq _ _ _ _ _ _ h]
 simpa[eO]using e
theorem kn.grown {f:Fp}{c:Cn}{w w':World}{r:Option Nat}(h:kn f c w)(i:w.grownBy w' r)(l:∀k,r=some k->dW w k 53/\dy<=k):kn f c w':=by
 have a:∀b t,dW w b t->t≠53->w'.heap[b]? =w.heap[b]? :=fun b t j m=>i.block b j.lt (fun e=>j.ne (l b e.symm).1 m Z);refine h.keep ⟨i.os,i.tape,i.output,i.size,fun k n=>i.block k (Ld n h.gl.top) (fun e=>by have:=(l k e.symm).2;omega)⟩ i.size (fun b j=>a b _ j D) (a _ _ h.Cx D) (a _ _ h.Dh D) (a _ _ h.Dm D) (a _ _ h.Dn D) (a _ _ h.Dp D) (a _ _ h.Dq D)
theorem ot.grown {f:Fp}{w b w':World}{r:Option Nat}(h:ot f w b)(a:b.grownBy w' r)(j:∀k,r=some k->w.heap.size<=k):ot f w w' :=
 ⟨a.os.trans h.os,a.tape.trans h.tape,a.output.trans h.output,La h.size a.size,fun k i h1 h2 l m n o=>(a.block k (Ld i h.size) (fun e=>by have:=j k e.symm;omega)).trans (h.block k i h1 h2 l m n o)⟩
theorem cI.xs {f:Fp}{c:Cn}{w w':World}{base:Nat}{v:Value}{L:List cP}(h:cI w base v L)(a:kn f c w)(b:ot f w w'):cI w' base v L :=
 h.keep b.size (a.ys b) (fun k e=>b.block k (h.lt k e).2 ((h.ty k e).ne a.Cx D) ((h.ty k e).ne a.Dh D) ((h.ty k e).ne a.Dm D) ((h.ty k e).ne a.Dn D) ((h.ty k e).ne a.Dp D) ((h.ty k e).ne a.Dq D))
theorem bE.xs {f:Fp}{c:Cn}{w w':World}{a:Option Addr}{L:List Sp}(h:bE w a L)(e:kn f c w)(b:ot f w w'):bE w' a L:=h.keep b.size (e.ys b)
end
section
open Go.RowKit Go.Shelf
def aS (B:Nat)(x:cP)(W:World):Prop:=W.heap[B]? =some (.cells (aX x).toArray 53 (0,0))
theorem aS.new (w:World)(x:cP):aS w.heap.size x (w.alloc (.cells (aX x).toArray 53)):=Ls _ _
theorem aS.lt {B:Nat}{x:cP}{W:World}(h:aS B x W):B<W.heap.size:=(L8.1 h).1
theorem aS.ty {B:Nat}{x:cP}{W:World}(h:aS B x W):dW W B 53:=⟨_,_,h⟩
theorem aS.below {B:Nat}{x:cP}{W W':World}(h:aS B x W)(a:Below W.heap.size W W'):aS B x W':=(a.block B h.lt).trans h
theorem aS.set {B:Nat}{x y:cP}{W:World}(h:aS B x W)(i:Nat)(v:Value)(he:(aX x).toArray.setIfInBounds i v=(aX y).toArray):aS B y (W.setCell ⟨B,i,none⟩ v):=by
 unfold aS;rw[LK _ _ _ _ _ _ h,he]
theorem aS.other {B C:Nat}{x:cP}{W:World}(h:aS B x W)(a:B≠C)(i:Nat)(v:Value):aS B x (W.setCell ⟨C,i,none⟩ v):=((nF.refl C W).setCell i v).block B h.lt a |>.trans h
theorem aS.cell {B:Nat}{x:cP}{W:World}(h:aS B x W)(i:Nat)(v:Value)(a:(aX x)[i]? =some v):W.cell? ⟨B,i,none⟩=some v:=by
 rw[Lq _ _ _ _ _ _ h]
 simpa using a
theorem aS.free {B:Nat}{x:cP}{W:World}(h:aS B x W)(i:Nat):W.frozen? ⟨B,i,none⟩=false:=LW _ _ _ _ _ h
theorem aS.xs {B:Nat}{x:cP}{f:Fp}{c:Cn}{W W':World}(h:aS B x W)(a:kn f c W)(b:ot f W W'):aS B x W' :=
 (b.block B h.lt (h.ty.ne a.Cx D) (h.ty.ne a.Dh D) (h.ty.ne a.Dm D) (h.ty.ne a.Dn D) (h.ty.ne a.Dp D) (h.ty.ne a.Dq D)).trans h
theorem kn.beside {f:Fp}{c:Cn}{w w':World}{B:Nat}{t:TypeId}(h:kn f c w)(e:dW w B t)(a:nF B w w')(q:dy<=B)
  (h1:t≠85)(h2:t≠135)(j:t≠142)(l:t≠132)(m:t≠120)(n:t≠5)(o:t≠149):kn f c w':=by
 refine h.keep ⟨a.os,a.tape,a.output,a.size,fun k p=>a.block k (Ld p h.gl.top) O⟩ a.size (fun b i=>a.block b i.lt (i.ne e o.symm)) (a.block _ h.Cx.lt (h.Cx.ne e h1.symm)) (a.block _ h.Dh.lt (h.Dh.ne e h2.symm)) (a.block _ h.Dm.lt (h.Dm.ne e j.symm)) (a.block _ h.Dn.lt (h.Dn.ne e l.symm)) (a.block _ h.Dp.lt (h.Dp.ne e m.symm)) (a.block _ h.Dq.lt (h.Dq.ne e n.symm))
theorem kn.EA {f:Fp}{c:Cn}{w:World}{B:Nat}{x:cP}(h:kn f c w)(a:aS B x w)(b:dy<=B)(i:Nat)(v:Value):kn f c (w.setCell ⟨B,i,none⟩ v) :=
 h.beside a.ty ((nF.refl _ _).setCell i v) b D D D D D D D
theorem ot.GU {f:Fp}{w b:World}(h:ot f w b){B:Nat}(o:w.heap.size<=B)(i:Nat)(v:Value):ot f w (b.setCell ⟨B,i,none⟩ v):=by
 have a:nF B b (b.setCell ⟨B,i,none⟩ v):=(nF.refl _ _).setCell i v;exact⟨a.os.trans h.os,a.tape.trans h.tape,a.output.trans h.output,La h.size a.size,fun k e h1 h2 j l m n=>(a.block k (Ld e h.size) O).trans (h.block k e h1 h2 j l m n)⟩
def dm (W:World)(B:Nat)(x:cP):World:=(((((((((((((W.setCell B x.1.fp).setCell ⟨B,1,none⟩ x.1.tp).setCell ⟨B,2,none⟩ x.1.sq).setCell ⟨B,3,none⟩ x.1.ak).setCell ⟨B,4,none⟩ x.1.syn).setCell ⟨B,5,none⟩ x.1.fin).setCell ⟨B,6,none⟩ x.1.te).setCell ⟨B,7,none⟩ x.1.has).setCell ⟨B,8,none⟩ x.1.win).setCell ⟨B,9,none⟩ x.1.go).setCell ⟨B,10,none⟩ x.1.ke).setCell ⟨B,11,none⟩ (.slice x.2.1 x.1.bl.length x.2.2)).setCell ⟨B,12,none⟩ (.string ⟨x.1.s.toArray⟩))
theorem dz (W:World)(B:Nat)(x:cP):nF B W (dm W B x):=((((((((((((((nF.refl B W).setCell 0 _).setCell 1 _).setCell 2 _).setCell 3 _).setCell 4 _).setCell 5 _).setCell 6 _).setCell 7 _).setCell 8 _).setCell 9 _).setCell 10 _).setCell 11 _).setCell 12 _)
theorem cy {B:Nat}{vs:Array Value}{W:World}(h:W.heap[B]? =some (.cells vs 53 (0,0)))(i:Nat)(v:Value):(W.setCell ⟨B,i,none⟩ v).heap[B]? =some (.cells (vs.setIfInBounds i v) 53 (0,0)):=LK _ _ _ _ _ _ h
theorem aS.put {B:Nat}{x y:cP}{W:World}(h:aS B x W):aS B y (dm W B y):=by
 have:=cy (cy (cy (cy (cy (cy (cy (cy (cy (cy (cy (cy (cy h 0 y.1.fp) 1 y.1.tp) 2 y.1.sq) 3 y.1.ak) 4 y.1.syn) 5 y.1.fin) 6 y.1.te) 7 y.1.has) 8 y.1.win) 9 y.1.go) 10 y.1.ke) 11 (.slice y.2.1 y.1.bl.length y.2.2)) 12 (.string ⟨y.1.s.toArray⟩);simp only[aX,Lf,Lk,Lm]at this;exact this
theorem ot.GV {f:Fp}{w b e:World}(h:ot f w b){B:Nat}(o:w.heap.size<=B)(a:nF B b e):ot f w e :=
 ⟨a.os.trans h.os,a.tape.trans h.tape,a.output.trans h.output,La h.size a.size,fun k i h1 h2 j l m n=>(a.block k (Ld i h.size) O).trans (h.block k i h1 h2 j l m n)⟩
theorem kn.GW {f:Fp}{c:Cn}{w w':World}{B:Nat}{x:cP}(h:kn f c w)(a:aS B x w)(b:dy<=B)(e:nF B w w'):kn f c w' :=
 h.beside a.ty e b D D D D D D D
theorem aS.Dj {B C:Nat}{x:cP}{W W':World}(h:aS B x W)(b:nF C W W')(a:B≠C):aS B x W':=(b.block B h.lt a).trans h
def rS (f:Fp)(c:Cn)(w W:World):Prop:=∃a,kn f c a/\a.heap.size=w.heap.size/\nF f.C w a/\Below w.heap.size a W
theorem rS.start {f:Fp}{c:Cn}{w:World}(h:kn f c w):rS f c w w:=⟨w,h,Z,nF.refl _ _,L5 _ _⟩
theorem rS.cn {f:Fp}{c:Cn}{w W:World}(h:rS f c w W):kn f c W:=by
 obtain⟨b,h1,h2,e,a⟩:=h;exact h1.below (by rw[h2];exact a)
theorem rS.ch {f:Fp}{c:Cn}{w W:World}(h:rS f c w W):ot f w W:=by
 obtain⟨e,h1,h2,a,b⟩:=h;exact(ot.DO a).trans (.Da (by rw[h2];exact b))
theorem rS.size {f:Fp}{c:Cn}{w W:World}(h:rS f c w W):w.heap.size<=W.heap.size:=by
 obtain⟨b,h1,h2,e,a⟩:=h;exact h2 ▸ a.size
theorem rS.below {f:Fp}{c:Cn}{w W W':World}(h:rS f c w W)(a:Below w.heap.size W W'):rS f c w W':=by
 obtain⟨b,h1,h2,e,i⟩:=h;exact⟨b,h1,h2,e,i.trans a⟩
theorem rS.set {f:Fp}{c:Cn}{w W:World}(h:rS f c w W)(i:Nat)(v:Value)(d:Cn)(he:(fQ f c).setIfInBounds i v=fQ f d)(o:d.sc=c.sc)(p:d.tm=c.tm)(q:d.cg=c.cg)(r:d.bx=c.bx):rS f d w (W.setCell ⟨f.C,i,none⟩ v):=by
 have l:=h.cn;obtain⟨m,h1,h2,s,b⟩:=h;refine⟨m.setCell ⟨f.C,i,none⟩ v,h1.set i v d he o p q r,by rw[My];exact h2,s.setCell i v,?_⟩;have e:nF f.C m (m.setCell ⟨f.C,i,none⟩ v):=(nF.refl _ _).setCell i v;have j:nF f.C W (W.setCell ⟨f.C,i,none⟩ v):=(nF.refl _ _).setCell i v;refine⟨(j.os.trans b.os).trans e.os.symm,(j.tape.trans b.tape).trans e.tape.symm,(j.output.trans b.output).trans e.output.symm,?_,fun k n=> ?_⟩
 ·rw[My,My];exact b.size
 by_cases a:k=f.C
 ·subst a;rw[LK _ _ _ _ _ _ l.blk,LK _ _ _ _ _ _ h1.blk]
 rw[j.block k (Ld (h2 ▸ n) b.size) a,e.block k (by rw[h2];exact n) a];exact b.block k n
structure Aq (f:Fp)(c:Cn)(w:World)(x:cP)(W:World):Prop where
 old:rS f c w W
 p:aS w.heap.size x W
 r:aS (w.heap.size+1) (dE,none,0) W
 top:dy<=w.heap.size
theorem jm {B:Nat}{x:cP}{W W':World}(h:aS B x W)(a:nF B W W'):aG W W':=aG.Dj a h.ty D
theorem nu {B N:Nat}{W W':World}(a:nF B W W')(b:N<=B)(e:N<=W.heap.size):Below N W W':=⟨a.os,a.tape,a.output,a.size,fun k h=>a.block k O O⟩
namespace Aq
variable {f : Fp} {c d : Cn} {w : World} {x y : cP} {W W' : World}
theorem cn (h:Aq f c w x W):kn f c W:=h.old.cn
theorem ch (h:Aq f c w x W):ot f w W:=h.old.ch
theorem below (h:Aq f c w x W)(a:Below W.heap.size W W'):Aq f c w x W' :=
 ⟨h.old.below (a.mono h.old.size),h.p.below a,h.r.below a,h.top⟩
theorem drewN (h:Aq f c w x W)(n:Nat):Aq f c w x (W.drewN n):=h.below (Below.drewN' W n)
theorem Dj (h:Aq f c w x W)(a:nF w.heap.size W W')(b:aS w.heap.size y W'):Aq f c w y W' :=
 ⟨h.old.below (nu a (L6 _) h.old.size),b,h.r.Dj a O,h.top⟩
theorem EA (h:Aq f c w x W)(i:Nat)(v:Value)(y:cP)(he:(aX x).toArray.setIfInBounds i v=(aX y).toArray):Aq f c w y (W.setCell ⟨w.heap.size,i,none⟩ v) :=
 h.Dj ((nF.refl _ _).setCell i v) (h.p.set i v he)
theorem put (h:Aq f c w x W)(y:cP):Aq f c w y (dm W w.heap.size y) :=
 h.Dj (dz _ _ _) h.p.put
theorem GN (h:Aq f c w x W)(i:Nat)(v:Value)(d:Cn)(he:(fQ f c).setIfInBounds i v=fQ f d)(b:d.sc=c.sc)(e:d.tm=c.tm)(j:d.cg=c.cg)(k:d.bx=c.bx):Aq f d w x (W.setCell ⟨f.C,i,none⟩ v):=by
 have a:nF f.C W (W.setCell ⟨f.C,i,none⟩ v):=(nF.refl _ _).setCell i v;exact⟨h.old.set i v d he b e j k,h.p.Dj a (h.p.ty.ne h.cn.Cx D),h.r.Dj a (h.r.ty.ne h.cn.Cx D),h.top⟩
theorem start (h:kn f c w)(x:cP):Aq f c w x ((w.alloc (.cells (aX x).toArray 53)).alloc (.cells (aX (dE,none,0)).toArray 53)):=by
 have a:=((L5 w.heap.size w).alloc (L6 _) (.cells (aX x).toArray 53)).alloc IK (.cells (aX (dE,none,0)).toArray 53);refine⟨(rS.start h).below a,(aS.new w x).below ((L5 _ _).alloc (L6 _) _),?_,h.gl.top⟩;have:=aS.new (w.alloc (.cells (aX x).toArray 53)) (dE,none,0)
 rwa [M1]at this
theorem result (h:Aq f c w x W)(y:cP):aS (w.heap.size+1) y (dm W (w.heap.size+1) y)/\kn f c (dm W (w.heap.size+1) y)/\ot f w (dm W (w.heap.size+1) y)/\∀a L,bE W a L->bE (dm W (w.heap.size+1) y) a L:=by
 have b:=dz W (w.heap.size+1) y;have e:=h.old.below (nu b O h.old.size);exact⟨h.r.put,e.cn,e.ch,fun a L i=>i.keep b.size (jm h.r b)⟩
theorem grown (h:Aq f c w x W){r:Option Nat}(i:W.grownBy W' r)(j:∀k,r=some k->w.heap.size<=k/\dW W k 149):Aq f c w x W':=by
 have a:∀b,dW W b 53->W'.heap[b]? =W.heap[b]? :=fun b l=>i.block b l.lt (fun e=>l.ne (j b e.symm).2 D Z);exact⟨h.old.below (aR i h.old.size (fun k e=>(j k e).1)),(a _ h.p.ty).trans h.p,(a _ h.r.ty).trans h.r,h.top⟩
end Aq
end
end Go.Proofs.YtcmncipikdpnbaaGreatDoor
