import Derived.Test.YtcmncipikdpnbaaGreatDoorUb8
import Derived.Test.YtcmncipikdpnbaaGreatDoorUb15
import Derived.Test.YtcmncipikdpnbaaGreatDoorUb17
import Derived.Test.YtcmncipikdpnbaaGreatDoorUb18
import Derived.Test.YtcmncipikdpnbaaGreatDoorUb19
import Derived.LaidSub
import Derived.Stop.LaidErr
import Derived.LaidLaws
namespace Go.Proofs.YtcmncipikdpnbaaGreatDoor
section
open Go.RowKit Go.Shelf
def aG (w w':World):Prop:=∀b,dX w b 149->w'.heap[b]? =w.heap[b]?
theorem aG.refl (w:World):aG w w:=fun _ _=>rfl
theorem aG.below {w w':World}(h:Below w.heap.size w w'):aG w w':=fun b a=>h.block b a.lt
theorem aG.BS {C:Nat}{t:TypeId}{w w':World}(h:lh C w w')(e:dX w C t)(i:t≠149):aG w w':=fun b a=>h.block b a.lt (a.ne e (Ne.symm i))
theorem aG.Hq {X R:Nat}{t u:TypeId}{w w':World}(h:wD X R w w')(e:dX w X t)(i:dX w R u)(j:t≠149)(k:u≠149):aG w w':=fun b a=>h.block b a.lt (a.ne e (Ne.symm j)) (a.ne i (Ne.symm k))
theorem oB.keep {L:List Sp}{a:Option Addr}{w w':World}(h:oB w w.heap.size a L)(k:0<L.length->∀l,a=some l->dX w l.block 149)(hs:w.heap.size<=w'.heap.size)(p:aG w w'):oB w' w'.heap.size a L:=by
 refine⟨h.small,fun m=> ?_⟩;obtain⟨b,o,n,q,j⟩:=h.cells m;have e:=p b (k m _ n);exact⟨b,o,n,Lb q hs,fun i hi=>⟨(Lg (a:=⟨b,_,none⟩) e).trans (j i hi).1,(Lg (a:=⟨b,_,none⟩) e).trans (j i hi).2⟩⟩
theorem bG.keep {lb:Nat}{L:List Sp}{a:Option Addr}{cap:Nat}{w w':World}(h:bG lb L a cap w)(hs:w.heap.size<=w'.heap.size)(b:aG w w'):bG lb L a cap w' :=
 ⟨h.1.keep h.2.2.2.2 hs b,h.2.1,h.2.2.1,h.2.2.2.1,fun i j e=>(h.2.2.2.2 i j e).of (b _ (h.2.2.2.2 i j e))⟩
theorem bK.keep {B lb:Nat}{s:Sc}{w w':World}(h:bK B lb s w)(e:w'.heap[B]? =w.heap[B]?)(hs:w.heap.size<=w'.heap.size)(b:aG w w'):bK B lb s w':=by
 obtain⟨h1,⟨h2,i⟩,j,k,l,m,a,n,lg⟩:=h;exact⟨h1,⟨L8 h2 hs,L8 i hs⟩,j,k,l,m,e.trans a,n.keep hs b,lg.keep hs b⟩
theorem ar.keep {B R lb:Nat}{b:Bx}{w w':World}(h:ar B R lb b w)(n:w'.heap[B]? =w.heap[B]?)(o:w'.heap[R]? =w.heap[R]?)(hs:w.heap.size<=w'.heap.size)(k:aG w w'):ar B R lb b w':=by
 obtain⟨h0,p,a,i,j,h1,h2,q⟩:=h;exact⟨h0,o.trans p,a,i,n.trans j,⟨h1.tooB.keep h1.ty hs k,fun l m e=>(h1.ty l m e).of (k _ (h1.ty l m e))⟩,h2,q⟩
theorem gJ.keep {B:Nat}{m:Tm}{w w':World}(h:gJ B m w)(a:w'.heap[B]? =w.heap[B]?):gJ B m w':=by
 obtain⟨t,b⟩:=h;exact⟨t,a.trans b⟩
theorem eX.keep {B:Nat}{m:Cg}{w w':World}(h:eX B m w)(a:w'.heap[B]? =w.heap[B]?):eX B m w':=by
 obtain⟨t,b⟩:=h;exact⟨t,a.trans b⟩
theorem bZ.D4 {B a b:Nat}{s:Sc}{w:World}(h:bZ B a b s w):dX w B 135:=by
 obtain⟨-,-,i,j,k,l,e,-⟩:=h;exact⟨_,_,e⟩
theorem ar.D4 {B R lb:Nat}{b:Bx}{w:World}(h:ar B R lb b w):dX w B 120/\dX w R 5:=by
 obtain⟨h0,i,a,j,e,-⟩:=h;exact⟨⟨_,_,e⟩,⟨_,_,i⟩⟩
theorem gJ.D4 {B:Nat}{m:Tm}{w:World}(h:gJ B m w):dX w B 142:=by
 obtain⟨⟨t,rfl⟩,a⟩:=h;exact⟨_,_,a⟩
theorem eX.D4 {B:Nat}{m:Cg}{w:World}(h:eX B m w):dX w B 132:=by
 obtain⟨⟨t,rfl⟩,a⟩:=h;exact⟨_,_,a⟩
structure Fp where
 C:Nat
 S:Nat
 T:Nat
 G:Nat
 X:Nat
 R:Nat
structure Fp.Hi (f:Fp)(N:Nat):Prop where
 C:N<=f.C
 S:N<=f.S
 T:N<=f.T
 G:N<=f.G
 X:N<=f.X
 R:N<=f.R
def eQ:Nat:=0+1+1
structure Gl (w:World):Prop where
 I7:fS w
 err:∃a,mY a w
 top:eQ<=w.heap.size
theorem Gl.below {w w':World}(h:Gl w)(b:Below eQ w w'):Gl w':=by
 obtain⟨⟨t,e,h1⟩,⟨a,h2⟩,i⟩:=h;exact⟨⟨t,e,by rw[b.block _ D];exact h1⟩,⟨a,h2.below b D⟩,L8 i b.size⟩
def fT (f:Fp)(c:Cn):Array Value:= #[.pointer (some ⟨f.S,0,none⟩),.pointer (some ⟨f.T,0,none⟩),.pointer (some ⟨f.G,0,none⟩),.string ⟨c.held.toArray⟩,.int .i64 c.base,.int .i64 c.limit,.int .i64 c.largest,.int .i64 c.gi,.bool c.iu,.bool c.shut,.int .i64 c.mark,.pointer (some ⟨f.X,0,none⟩),.int .i64 c.tq,.int .i64 c.room,.int .i64 c.ann,.bool c.ended,.int .i64 c.ox,.bool c.over,.int .i64 c.pend,.bool c.pd.set,.int .i64 c.pd.since,.int .i64 c.pd.ticks,.int .i64 c.cf.fp,.int .i64 c.cf.tp,.int .i64 c.cf.kc,.int .i64 c.cf.gi,.int .i64 c.cf.room,.int .i64 c.cf.keep,.int .i64 c.st,.int .i64 c.err,.bool c.dl.set,.int .i64 c.dl.since,.int .i64 c.dl.ticks,.int .i64 c.tries,.bool c.per.set,.int .i64 c.per.since,.int .i64 c.per.ticks]
structure kf (f:Fp)(c:Cn)(w:World):Prop where
 blk:w.heap[f.C]? =some (.cells (fT f c) 85 (0,0))
 sc:bK f.S (f.S+1) c.sc w
 tm:gJ f.T c.tm w
 cg:eX f.G c.cg w
 bx:ar f.X f.R 0 c.bx w
 gl:Gl w
 hi:f.Hi eQ
structure nA (f:Fp)(w w':World):Prop where
 os:w'.os=w.os
 tape:w'.tape=w.tape
 output:w'.output=w.output
 size:w.heap.size<=w'.heap.size
 block:∀k,k<w.heap.size->k≠f.C->k≠f.S->k≠f.T->k≠f.G->k≠f.X->k≠f.R->w'.heap[k]? =w.heap[k]?
theorem nA.refl (f:Fp)(w:World):nA f w w:=⟨Z,Z,Z,L4 _,fun _ _ _ _ _ _ _ _=>rfl⟩
theorem nA.trans {f:Fp}{a b c:World}(h:nA f a b)(k:nA f b c):nA f a c :=
 ⟨k.os.trans h.os,k.tape.trans h.tape,k.output.trans h.output,L8 h.size k.size,fun i hi h1 h2 e j l m=>(k.block i (Lb hi h.size) h1 h2 e j l m).trans (h.block i hi h1 h2 e j l m)⟩
theorem nA.trans' {f g:Fp}{a b c:World}(h:nA f a b)(k:nA g b c)(n:g.C=f.C)(o:g.S=f.S)(p:g.T=f.T)(q:g.G=f.G\/a.heap.size<=g.G)(r:g.X=f.X)(s:g.R=f.R):nA f a c :=
 ⟨k.os.trans h.os,k.tape.trans h.tape,k.output.trans h.output,L8 h.size k.size,fun i hi h1 h2 e j l m=>(k.block i (Lb hi h.size) O O O O O O).trans (h.block i hi h1 h2 e j l m)⟩
theorem nA.A1 {f:Fp}{w w':World}(h:Below w.heap.size w w'):nA f w w':=⟨h.os,h.tape,h.output,h.size,fun k a _ _ _ _ _ _=>h.block k a⟩
theorem nA.Da {f:Fp}{w w':World}(h:lh f.C w w'):nA f w w':=⟨h.os,h.tape,h.output,h.size,fun k a h1 _ _ _ _ _=>h.block k a h1⟩
theorem nA.EK {f:Fp}{w w':World}(h:lh f.S w w'):nA f w w':=⟨h.os,h.tape,h.output,h.size,fun k a _ h1 _ _ _ _=>h.block k a h1⟩
theorem nA.Gu {f:Fp}{w w':World}(h:lh f.T w w'):nA f w w':=⟨h.os,h.tape,h.output,h.size,fun k a _ _ h1 _ _ _=>h.block k a h1⟩
theorem nA.GX {f:Fp}{w w':World}(h:lh f.G w w'):nA f w w':=⟨h.os,h.tape,h.output,h.size,fun k a _ _ _ h1 _ _=>h.block k a h1⟩
theorem nA.Hr {f:Fp}{w w':World}(h:wD f.X f.R w w'):nA f w w':=⟨h.os,h.tape,h.output,h.size,fun k a _ _ _ _ h1 h2=>h.block k a h1 h2⟩
theorem nA.EU {f:Fp}{w w':World}(h:nA f w w')(hf:f.Hi eQ)(a:eQ<=w.heap.size):Below eQ w w' :=
 ⟨h.os,h.tape,h.output,h.size,fun k b=>h.block k O (by have:=hf.C;omega) (by have:=hf.S;omega) (by have:=hf.T;omega) (by have:=hf.G;omega) (by have:=hf.X;omega) (by have:=hf.R;omega)⟩
theorem nA.below {f:Fp}{N:Nat}{w w':World}(h:nA f w w')(hs:N<=w.heap.size)(h1:N<=f.C)(h2:N<=f.S)(a:N<=f.T)(b:N<=f.G)(e:N<=f.X)(i:N<=f.R):Below N w w' :=
 ⟨h.os,h.tape,h.output,h.size,fun k j=>h.block k O O O O O O O⟩
namespace kf
variable {f g : Fp} {c d : Cn} {w w' : World}
theorem zs (h:kf f c w):dX w f.C 85:=⟨_,_,h.blk⟩
theorem BU (h:kf f c w):dX w f.S 135:=h.sc.D4
theorem BW (h:kf f c w):dX w f.T 142:=h.tm.D4
theorem BX (h:kf f c w):dX w f.G 132:=h.cg.D4
theorem BY (h:kf f c w):dX w f.X 120:=h.bx.D4.1
theorem Cd (h:kf f c w):dX w f.R 5:=h.bx.D4.2
theorem lt (h:kf f c w):f.C<w.heap.size:=h.zs.lt
theorem cell (h:kf f c w)(i:Nat)(v:Value)(a:(fT f c)[i]? =some v):w.cell? ⟨f.C,i,none⟩=some v:=by rw[Ln _ _ _ _ _ _ h.blk];exact a
theorem free (h:kf f c w)(i:Nat):w.frozen? ⟨f.C,i,none⟩=false:=LT _ _ _ _ _ h.blk
theorem keep (h:kf f c w)(hl:Below eQ w w')(hs:w.heap.size<=w'.heap.size)(a:aG w w')(h1:w'.heap[f.C]? =w.heap[f.C]?)(h2:w'.heap[f.S]? =w.heap[f.S]?)(b:w'.heap[f.T]? =w.heap[f.T]?)(e:w'.heap[f.G]? =w.heap[f.G]?)(i:w'.heap[f.X]? =w.heap[f.X]?)(j:w'.heap[f.R]? =w.heap[f.R]?):kf f c w' :=
 ⟨h1.trans h.blk,h.sc.keep h2 hs a,h.tm.keep b,h.cg.keep e,h.bx.keep i j hs a,h.gl.below hl,h.hi⟩
theorem below (h:kf f c w)(a:Below w.heap.size w w'):kf f c w' :=
 h.keep (a.mono h.gl.top) a.size (.below a) (a.block _ h.zs.lt) (a.block _ h.BU.lt) (a.block _ h.BW.lt) (a.block _ h.BX.lt) (a.block _ h.BY.lt) (a.block _ h.Cd.lt)
theorem alloc (h:kf f c w)(o:Obj):kf f c (w.alloc o):=h.below ((L3 _ w).alloc (L4 _) o)
theorem drew (h:kf f c w):kf f c w.drew:=h.below (L3 _ w).drew
theorem set (h:kf f c w)(i:Nat)(v:Value)(d:Cn)(he:(fT f c).setIfInBounds i v=fT f d)(e:d.sc=c.sc)(j:d.tm=c.tm)(k:d.cg=c.cg)(l:d.bx=c.bx):kf f d (w.setCell ⟨f.C,i,none⟩ v):=by
 have a:lh f.C w (w.setCell ⟨f.C,i,none⟩ v):=(lh.refl _ _).setCell i v;have b:=aG.BS a h.zs D;refine⟨by rw[LH _ _ _ _ _ _ h.blk,he],?_,?_,?_,?_,h.gl.below ((nA.Da a).EU h.hi h.gl.top),h.hi⟩
 ·rw[e];exact h.sc.keep (a.block _ h.BU.lt (h.BU.ne h.zs D)) a.size b
 ·rw[j];exact h.tm.keep (a.block _ h.BW.lt (h.BW.ne h.zs D))
 ·rw[k];exact h.cg.keep (a.block _ h.BX.lt (h.BX.ne h.zs D))
 rw[l];exact h.bx.keep (a.block _ h.BY.lt (h.BY.ne h.zs D)) (a.block _ h.Cd.lt (h.Cd.ne h.zs D)) a.size b
theorem FB (h:kf f c w){s:Sc}(hs:bK f.S (f.S+1) s w')(a:lh f.S w w'):kf f { c with sc:=s } w':=by
 have b:=aG.BS a h.BU D;exact⟨(a.block _ h.zs.lt (h.zs.ne h.BU D)).trans h.blk,hs,h.tm.keep (a.block _ h.BW.lt (h.BW.ne h.BU D)),h.cg.keep (a.block _ h.BX.lt (h.BX.ne h.BU D)),h.bx.keep (a.block _ h.BY.lt (h.BY.ne h.BU D)) (a.block _ h.Cd.lt (h.Cd.ne h.BU D)) a.size b,h.gl.below ((nA.EK a).EU h.hi h.gl.top),h.hi⟩
theorem Gx (h:kf f c w){m:Tm}(hs:gJ f.T m w')(a:lh f.T w w'):kf f { c with tm:=m } w':=by
 have b:=aG.BS a h.BW D;exact⟨(a.block _ h.zs.lt (h.zs.ne h.BW D)).trans h.blk,h.sc.keep (a.block _ h.BU.lt (h.BU.ne h.BW D)) a.size b,hs,h.cg.keep (a.block _ h.BX.lt (h.BX.ne h.BW D)),h.bx.keep (a.block _ h.BY.lt (h.BY.ne h.BW D)) (a.block _ h.Cd.lt (h.Cd.ne h.BW D)) a.size b,h.gl.below ((nA.Gu a).EU h.hi h.gl.top),h.hi⟩
theorem Hj (h:kf f c w){m:Cg}(hs:eX f.G m w')(a:lh f.G w w'):kf f { c with cg:=m } w':=by
 have b:=aG.BS a h.BX D;exact⟨(a.block _ h.zs.lt (h.zs.ne h.BX D)).trans h.blk,h.sc.keep (a.block _ h.BU.lt (h.BU.ne h.BX D)) a.size b,h.tm.keep (a.block _ h.BW.lt (h.BW.ne h.BX D)),hs,h.bx.keep (a.block _ h.BY.lt (h.BY.ne h.BX D)) (a.block _ h.Cd.lt (h.Cd.ne h.BX D)) a.size b,h.gl.below ((nA.GX a).EU h.hi h.gl.top),h.hi⟩
theorem I8 (h:kf f c w){b:Bx}(hs:ar f.X f.R 0 b w')(a:wD f.X f.R w w'):kf f { c with bx:=b } w':=by
 have e:=aG.Hq a h.BY h.Cd D D;exact⟨(a.block _ h.zs.lt (h.zs.ne h.BY D) (h.zs.ne h.Cd D)).trans h.blk,h.sc.keep (a.block _ h.BU.lt (h.BU.ne h.BY D) (h.BU.ne h.Cd D)) a.size e,h.tm.keep (a.block _ h.BW.lt (h.BW.ne h.BY D) (h.BW.ne h.Cd D)),h.cg.keep (a.block _ h.BX.lt (h.BX.ne h.BY D) (h.BX.ne h.Cd D)),hs,h.gl.below ((nA.Hr a).EU h.hi h.gl.top),h.hi⟩
structure Hk (f g:Fp):Prop where
 C:f.C≠g.C
 S:f.S≠g.S
 T:f.T≠g.T
 G:f.G≠g.G
 X:f.X≠g.X
 R:f.R≠g.R
theorem t8 (h:kf f c w)(e:nA f w w'):aG w w':=fun b a =>
 e.block b a.lt (a.ne h.zs D) (a.ne h.BU D) (a.ne h.BW D) (a.ne h.BX D) (a.ne h.BY D) (a.ne h.Cd D)
theorem across (h:kf f c w)(k:kf g d w)(a:Hk f g)(b:nA g w w'):kf f c w' :=
 h.keep (b.EU k.hi k.gl.top) b.size (k.t8 b)
  (b.block _ h.zs.lt a.C (h.zs.ne k.BU D) (h.zs.ne k.BW D) (h.zs.ne k.BX D) (h.zs.ne k.BY D) (h.zs.ne k.Cd D))
  (b.block _ h.BU.lt (h.BU.ne k.zs D) a.S (h.BU.ne k.BW D) (h.BU.ne k.BX D) (h.BU.ne k.BY D) (h.BU.ne k.Cd D))
  (b.block _ h.BW.lt (h.BW.ne k.zs D) (h.BW.ne k.BU D) a.T (h.BW.ne k.BX D) (h.BW.ne k.BY D) (h.BW.ne k.Cd D))
  (b.block _ h.BX.lt (h.BX.ne k.zs D) (h.BX.ne k.BU D) (h.BX.ne k.BW D) a.G (h.BX.ne k.BY D) (h.BX.ne k.Cd D))
  (b.block _ h.BY.lt (h.BY.ne k.zs D) (h.BY.ne k.BU D) (h.BY.ne k.BW D) (h.BY.ne k.BX D) a.X (h.BY.ne k.Cd D))
  (b.block _ h.Cd.lt (h.Cd.ne k.zs D) (h.Cd.ne k.BU D) (h.Cd.ne k.BW D) (h.Cd.ne k.BX D) (h.Cd.ne k.BY D) a.R)
end kf
end
section
open Go.RowKit Go.Shelf
theorem ai {w a b:World}(h:Below w.heap.size w a)(k:Below a.heap.size a b):Below w.heap.size w b:=h.trans (k.mono h.size)
theorem yX (l:List UInt8)(a b:Nat):(⟨l.toArray⟩:ByteArray).extract a b=⟨((l.drop a).take (b-a)).toArray⟩:=by
 apply ByteArray.ext
 rw[NL]
 simp
theorem lU (l:List UInt8)(a:Nat):(⟨l.toArray⟩:ByteArray).extract a l.length=⟨(l.drop a).toArray⟩:=by
 rw[yX,Mc JN]
theorem dh (f:Fp)(c:Cn)(w:World)(h:kf f c w) :
  Calls Tryz.prog 84 #[f.C] w fun e w'=>e= .returned c.fM/\Below w.heap.size w w':=by
 have b:=h.cell 0 _ Z;have hs:=H h.sc
 go_enter Tryz.func84,Tryz.ntmps84
 go_wp2_with fail;refine(vQ _ _ _ _ hs.out).mono ?_;rintro e w' ⟨rfl,a⟩;go_wp2;go_ret;exact⟨Z,a⟩
theorem aX (f:Fp)(c:Cn)(w:World)(h:kf f c w) :
  Calls Tryz.prog 56 #[f.C] w fun e w'=>e= .returned c.next/\Below w.heap.size w w':=by
 have b:=h.cell 0 _ Z;have hs:=H h.sc
 go_enter Tryz.func56,Tryz.ntmps56
 go_wp2_with fail;refine(sX _ _ _ _ hs.out).mono ?_;rintro e w' ⟨rfl,a⟩;go_wp2;go_ret;exact⟨Z,a⟩
theorem cr (f:Fp)(c:Cn)(w:World)(h:kf f c w)(ok:c.sc.Ok) :
  Calls Tryz.prog 54 #[f.C] w fun e w'=>e= .returned c.flight/\Below w.heap.size w w':=by
 have h1:0<=c.fM:=ok.u0;have h2:c.fM<=c.next:=ok.un;have j:c.next<=1099511627776:=ok.n40;have hs:=H h;clear h
 go_enter Tryz.func54,Tryz.ntmps54
 go_wp2_with fail;refine(aX f c _ hs.out).mono ?_;rintro e k⟨rfl,b⟩;go_wp2_with fail;refine(dh f c _ (hs.out.below b)).mono ?_;rintro e l⟨rfl,a⟩;have i:=H (ai b a);clear b a;go_wp2;go_ret;exact⟨Z,i.o⟩
theorem ez (f:Fp)(c:Cn)(w:World)(h:kf f c w)(a: -1099511627776<=c.base/\c.base<=1099511627776)(hl:c.held.length<=1099511627776) :
  Calls Tryz.prog 129 #[f.C] w fun e w'=>e= .returned c.last/\w'=w.drew:=by
 have b:=h.cell 3 (.string ⟨c.held.toArray⟩) Z;have i:=h.cell 4 c.base Z;have hz:(⟨c.held.toArray⟩:ByteArray).size=c.held.length:=IL
 go_enter Tryz.func129,Tryz.ntmps129
 go_wp2
 go_region
 all_goals
  go_wp2
  go_ret;exact⟨Z,Z⟩
theorem fU (f:Fp)(c:Cn)(w:World)(h:kf f c w)(ok:c.sc.Ok)(i: -1099511627776<=c.base/\c.base<=1099511627776)(hl:c.held.length<=1099511627776) :
  Calls Tryz.prog 88 #[f.C] w fun e w'=>e= .returned c.iq/\Below w.heap.size w w':=by
 have h1:0<=c.next:=Lz ok.u0 ok.un;have l:c.next<=1099511627776:=ok.n40;have m: -1099511627776<=c.last/\c.last<=2199023255552:=by unfold Cn.last;omega
 have hs:=H h;clear h
 go_enter Tryz.func88,Tryz.ntmps88
 go_wp2_with fail;refine(ez f c _ hs.out i hl).mono ?_;rintro e j⟨rfl,hw⟩;have a:Below w.heap.size w j:=by rw[hw];exact(L3 _ w).drew
 clear hw;go_wp2_with fail;refine(aX f c _ (hs.out.below a)).mono ?_;rintro e n⟨rfl,b⟩;have k:=H (ai a b);clear a b;go_wp2;go_ret;exact⟨Z,k.o⟩
theorem vj (f:Fp)(c:Cn)(u:Int)(w:World)(h:kf f c w)(a: -1099511627776<=c.base/\c.base<=1099511627776)(hl:c.held.length<=1099511627776)(b: -1099511627776<=u/\u<=1099511627776) :
  Calls Tryz.prog 132 #[f.C,u] w fun e w'=>e= .returned (.tuple #[])/\kf f (c.drop u) w'/\nA f w w':=by
 have i:=h.cell 3 (.string ⟨c.held.toArray⟩) Z;have j:=h.cell 4 c.base Z;have f3:=h.free 3;have k:=h.free 4;have hz:(⟨c.held.toArray⟩:ByteArray).size=c.held.length:=IL
 have hs:=H h;clear h
 go_enter Tryz.func132,Tryz.ntmps132
 go_wp2
 go_region
 all_goals
  go_wp2
  go_end0
  rw[lU];exact⟨Z,((hs.out.set 3 _ { c with held:=c.held.drop (dL c.held c.base u).toNat } Z Z Z Z Z).set 4 _ (c.drop u) Z Z Z Z Z).drew,.Da (((lh.refl _ _).setCell 3 _).setCell 4 _).drew⟩
theorem jC (f:Fp)(c:Cn)(a v:Int)(w:World)(h:kf f c w)(ha: -1099511627776<=a/\a<=1099511627776)(b:0<=v/\v<=65535) :
  Calls Tryz.prog 101 #[f.C,a,v] w fun e w'=>e= .returned (.tuple #[])/\kf f (c.announce a v) w'/\nA f w w':=by
 have i:=h.cell 5 c.limit Z;have j:=h.cell 6 c.largest Z;have k:=h.free 5;have f6:=h.free 6;have hs:=H h;clear h
 go_enter Tryz.func101,Tryz.ntmps101
 go_wp2
 go_end0
 refine⟨Z,(hs.out.set 5 _ { c with limit:=max c.limit (a+v) } Z Z Z Z Z).set 6 _ (c.announce a v) Z Z Z Z Z,.Da (((lh.refl _ _).setCell 5 _).setCell 6 _)⟩
end
section
open Go.RowKit Go.Shelf
theorem Below.drewN' (w:World)(n:Nat):Below w.heap.size w (w.drewN n):=⟨Z,Z,Z,L4 _,fun _ _=>rfl⟩
theorem ar.drewN {B R lb:Nat}{b:Bx}{w:World}(h:ar B R lb b w)(n:Nat):ar B R lb b (w.drewN n):=h.below (Below.drewN' w n)
theorem kf.drewN {f:Fp}{c:Cn}{w:World}(h:kf f c w)(n:Nat):kf f c (w.drewN n):=h.below (Below.drewN' w n)
theorem DS {P:Program}{f:FuncId}{args:Array Value}{w:World}{n:Nat}{v:Value}
  (h:Calls P f args (w.drewN n) fun e w'=>e= .returned v/\w'=(w.drewN n).drew.drew):Calls P f args (w.drewN n) fun e a=>e= .returned v/\∃m,a=w.drewN m :=
 h.mono fun _ _ ⟨he,hm⟩=>⟨he,n+2,hm⟩
theorem rB (f:Fp)(c:Cn)(n:Int)(w:World)(h:kf f c w) :
  Calls Tryz.prog 38 #[.pointer (some ⟨f.C,11,none⟩),n] w fun e w'=>e= .returned (c.offset n)/\Below w.heap.size w w':=by
 have a:=h.cell 12 c.tq Z
 go_enter Tryz.func38,Tryz.ntmps38
 go_wp2_with fail;refine(gt _ _ _).mono ?_;rintro e b⟨rfl,rfl⟩;go_wp2_with fail;refine(df _ _ _).mono ?_;rintro e b⟨rfl,rfl⟩;go_wp2;go_ret;exact⟨Z,L3 _ _⟩
theorem rC (f:Fp)(c:Cn)(n:Int)(w:World)(h:kf f c w)(b: -1099511627776<=n/\n<=4398046511104) :
  Calls Tryz.prog 112 #[.pointer (some ⟨f.C,11,none⟩),n] w fun e w'=>e= .returned (c.number n)/\Below w.heap.size w w':=by
 have a:=h.cell 12 c.tq Z
 go_enter Tryz.func112,Tryz.ntmps112
 go_wp2_with fail;refine(gt _ _ _).mono ?_;rintro e i⟨rfl,rfl⟩;go_wp2;go_ret;exact⟨Z,L3 _ _⟩
theorem cP (f:Fp)(c:Cn)(w:World)(h:kf f c w) :
  Calls Tryz.prog 51 #[.pointer (some ⟨f.C,11,none⟩)] w fun e w'=>e= .returned c.reached/\Below w.heap.size w w':=by
 have j:=h.cell 11 f.X Z;have b:=h.cell 15 c.ended Z;have k:=h.cell 16 c.ox Z;have l:=H h.bx;by_cases he:c.ended=true
 ·have i:=H (show c.reached=(c.bx.nx==c.ox) by unfold Cn.reached;rw[he,Ny];rfl);rw[he]at b;rw[i.o];clear he i
  go_enter Tryz.func51,Tryz.ntmps51
  go_wp2_with fail
  go_quiet ((go_at_call 83;exact qs (co _ _ _ _ _ (l.out.drewN _))))
  all_goals
   go_wp2
   go_ret;exact⟨Z,Below.drewN' _ _⟩
 have a:c.ended=false:=by simpa using he
 have i:=H (show c.reached=false by unfold Cn.reached;rw[a,Bool.false_and]);rw[a]at b;rw[i.o];clear he a i
 go_enter Tryz.func51,Tryz.ntmps51
 go_wp2_with fail
 go_quiet (fail)
 all_goals
  go_wp2
  go_ret;exact⟨Z,Below.drewN' _ _⟩
theorem cK (f:Fp)(c:Cn)(w:World)(h:kf f c w) :
  Calls Tryz.prog 44 #[.pointer (some ⟨f.C,11,none⟩)] w fun e w'=>e= .returned (.tuple #[])/\kf f c.gB w'/\nA f w w':=by
 have b:=h.free 18;have a:=h.cell 18 c.pend Z
 go_enter Tryz.func44,Tryz.ntmps44
 go_wp2
 go_end0
 exact⟨Z,h.set 18 _ c.gB Z Z Z Z Z,.Da ((lh.refl _ _).setCell 18 _)⟩
theorem fy (f:Fp)(c:Cn)(w:World)(h:kf f c w)(ok:c.bx.Ok) :
  Calls Tryz.prog 41 #[.pointer (some ⟨f.C,11,none⟩)] w fun e w'=>e= .returned c.expected/\Below w.heap.size w w':=by
 have j:=h.cell 11 f.X Z;have h1:=ok.Do;have h2:=ok.xK;have p:=ok.Ck;have q:=ok.small;have hs:=H h;by_cases i:c.reached=true
 ·have k:=H (show c.expected=c.bx.nx+1 by unfold Cn.expected;rw[L7 i]);rw[k.o];clear k
  go_enter Tryz.func41,Tryz.ntmps41
  go_wp2_with fail;refine(cP f c _ hs.out).mono ?_;rintro e m⟨rfl,b⟩;rw[i];have a:=H (hs.out.below b);have j:=a.out.cell 11 f.X Z;have n:=H a.out.bx;have b:=H b;clear i;go_wp2_with fail;refine(co _ _ _ _ _ n.out).mono ?_;rintro e m⟨rfl,rfl⟩;go_wp2;go_ret;exact⟨Z,b.out⟩
 have l:c.reached=false:=Jl
 have k:=H (show c.expected=c.bx.nx by unfold Cn.expected;rw[L5 i]);rw[k.o];clear k i
 go_enter Tryz.func41,Tryz.ntmps41
 go_wp2_with fail;refine(cP f c _ hs.out).mono ?_;rintro e m⟨rfl,b⟩;rw[l];have a:=H (hs.out.below b);have j:=a.out.cell 11 f.X Z;have n:=H a.out.bx;have b:=H b;clear l;go_wp2_with fail;refine(co _ _ _ _ _ n.out).mono ?_;rintro e m⟨rfl,rfl⟩;go_wp2;go_ret;exact⟨Z,b.out⟩
theorem vk {a b:Bool}(h:a=b):Ending.returned a= .returned b:=by rw[h]
theorem C3 {a b:Int}{c d:Bool}(h:a=b)(k:c=d):Ending.returned (.tuple #[a,c])= .returned (.tuple #[b,d]):=by rw[h,k]
theorem iC (f:Fp)(c:Cn)(m:Int)(w:World)(h:kf f c w)(ok:c.bx.Ok)(ha: -1099511627776<=c.ann/\c.ann<=2199023255552)(hr:0<=c.room/\c.room<=8192) :
  Calls Tryz.prog 93 #[.pointer (some ⟨f.C,11,none⟩),m] w fun e w'=>e= .returned (.tuple #[c.most,(c.tE m)])/\Below w.heap.size w w':=by
 have b:=h.cell 11 f.X Z;have i:=h.cell 13 c.room Z;have j:=h.cell 14 c.ann Z;have h1:=ok.Do;have h2:=ok.xK;have p:=ok.Ck;have q:=ok.small;have hs:=H h;have k:=H ok;have a:=H (show c.most=c.bx.rd+c.bx.ring.length from Z);by_cases l:c.ann<c.bx.nx+(c.bx.rd+c.bx.ring.length-c.bx.nx)
 focus
  go_enter Tryz.func93,Tryz.ntmps93
 rotate_left 1
 focus
  have n:decide (c.ann<c.bx.nx+(c.bx.rd+c.bx.ring.length-c.bx.nx))=false:=Lf l
  go_enter Tryz.func93,Tryz.ntmps93
 all_goals
  go_wp2_with fail
  go_quiet ((first | (go_at_call 83;exact qs (co _ _ _ _ _ (hs.out.bx.drewN _))) | (go_at_call 141;exact DS (xh _ _ _ _ _ (hs.out.bx.drewN _) k.o))))
  all_goals
   go_wp2
   go_quiet (fail)
   all_goals
    go_wp2
    go_ret2
    refine⟨C3 (by rw[a.o];omega) ?_,⟨Z,Z,Z,L4 _,fun _ _=>rfl⟩⟩;unfold Cn.tE;rw[a.o]
    first | exact N6.2 O | exact(Lf O).symm
theorem pS (f:Fp)(c:Cn)(off n:Int)(w:World)(h:kf f c w)(ok:c.bx.Ok)(ho: -2147483648<=off/\off<=2147483647)(l:0<=n/\n<=2048)(ha: -1099511627776<=c.ann/\c.ann<=2199023255552) :
  Calls Tryz.prog 39 #[.pointer (some ⟨f.C,11,none⟩),off,n] w fun e w'=>e= .returned (c.accepts off n)/\Below w.heap.size w w':=by
 have h1:=ok.Do;have h2:=ok.xK;have m:=ok.Ck;have o:=ok.small;have hs:=H h;have p:=H ok;have q:c.bx.nx<=c.expected/\c.expected<=c.bx.nx+1:=by unfold Cn.expected;split <;> omega
 go_enter Tryz.func39,Tryz.ntmps39
 go_wp2_with fail;refine(fy f c _ hs.out ok).mono ?_;rintro e r⟨rfl,b⟩;have a:=H (hs.out.below b);have j:=a.out.cell 11 f.X Z;have k:=a.out.cell 14 c.ann Z;have i:=H b;clear b;go_wp2_with fail
 go_quiet ((go_at_call 83;exact qs (co _ _ _ _ _ (a.out.bx.drewN _))))
 all_goals
  go_wp2
  all_goals
   go_ret;refine⟨vk ?_,i.trans (Below.drewN' _ _ |>.mono i.size)⟩;unfold Cn.accepts
   (repeat' split) <;> simp_all <;> omega
end
section
open Go.RowKit Go.Shelf
theorem Bs (s e:Int)(hs:0<=s/\s<=9)(he:1<=e/\e<=9):yQ s e=(match gb s e with | none=> -1 | some n=>n):=by
 obtain⟨a,rfl⟩:=LY hs.1;obtain⟨b,rfl⟩:=LY (show 0<=e by omega);have h:∀a:Nat,a<10->∀b:Nat,b<10->1<=b->yQ (a:Int) (b:Int)=(match gb (a:Int) (b:Int)with | none=> -1 | some n=>n):=D
 exact h a O b O O
theorem dR (now t:Int)(w:World) :
  Calls Tryz.prog 65 #[now,t] w fun e w'=>e= .returned (.agg #[true,now,t])/\Below w.heap.size w w':=by
 go_enter Tryz.func65,Tryz.ntmps65
 go_wp2
 refine Lm (v:=.agg #[true,now,t]) (M3 (p:=4) (ty:=81) Z _ _ w.heap.size 81 _ (0,0) _ IJ (Lp _ _) Tryz.underlying81 Z IG) Z ⟨Z,(L3 _ _).alloc (L4 _) _⟩
theorem yY {s n:Int}(hs:aI s)(a:aI n)(h:s<=n):IntKind.u64.wrap (IntKind.u64.wrap n-IntKind.u64.wrap s)=n-s:=by
 unfold aI at hs a;rw[N7,N7,N7];omega
theorem ju (a:Al)(now:Int)(w:World)(h1:aI now)(h2:aI a.since)(j:0<=a.ticks/\a.ticks<=1000) :
  Calls Tryz.prog 72 #[.agg #[a.set,a.since,a.ticks],now] w fun e w'=>e= .returned (a.due now)/\Below w.heap.size w w':=by
 have i:=H (fun h=>yY h2 h1 h);unfold aI at h1 h2;obtain⟨s,b,t⟩:=a;dsimp only at h2 j i|-
 go_enter Tryz.func72,Tryz.ntmps72
 go_wp2
 all_goals
  go_ret;refine⟨vk ?_,(L3 _ _).alloc (L4 _) _⟩;unfold Al.due;dsimp only
  first | (rw[i.o O];simp_all;done) | (simp_all;done) | (simp_all;omega)
theorem bV (f:Fp)(c:Cn)(w:World)(h:kf f c w) :
  Calls Tryz.prog 35 #[f.C] w fun e w'=>e= .returned (decide (c.st=0))/\Below w.heap.size w w':=by
 have a:=h.cell 28 c.st Z
 go_enter Tryz.func35,Tryz.ntmps35
 go_wp2;go_ret;exact⟨Z,L3 _ _⟩
theorem iD (f:Fp)(c:Cn)(w:World)(h:kf f c w) :
  Calls Tryz.prog 92 #[f.C] w fun e w'=>e= .returned c.failure/\Below w.heap.size w w':=by
 have a:=h.cell 29 c.err Z
 go_enter Tryz.func92,Tryz.ntmps92
 go_wp2
 all_goals
  go_ret;refine⟨cH ?_,L3 _ _⟩;unfold Cn.failure;split <;> simp_all
theorem bT (f:Fp)(c:Cn)(w:World)(h:kf f c w) :
  Calls Tryz.prog 18 #[f.C] w fun e w'=>e= .returned c.st/\w=w':=by
 have a:=h.cell 28 c.st Z
 go_enter Tryz.func18,Tryz.ntmps18
 go_wp2
 go_ret;exact⟨Z,Z⟩
theorem rD (f:Fp)(c:Cn)(w:World)(h:kf f c w) :
  Calls Tryz.prog 25 #[f.C] w fun e w'=>e= .returned c.err/\w=w':=by
 have a:=h.cell 29 c.err Z
 go_enter Tryz.func25,Tryz.ntmps25
 go_wp2
 go_ret;exact⟨Z,Z⟩
theorem mh (f:Fp)(c:Cn)(w:World)(h:kf f c w) :
  Calls Tryz.prog 86 #[f.C] w fun e w'=>e= .returned (ae c.st)/\Below w.heap.size w w':=by
 have a:=h.cell 28 c.st Z
 go_enter Tryz.func86,Tryz.ntmps86
 go_wp2
 all_goals
  go_ret;refine⟨vk ?_,L3 _ _⟩;unfold ae
  simp_all
end
section
open Go.RowKit Go.Shelf
set_option maxHeartbeats 2000000 in
theorem cU (f:Fp) (c:Cn) (now i:Int) (w:World) (h:kf f c w) (hs:0<=c.st/\c.st<=9) (he:1<=i/\i<=9) :
  Calls Tryz.prog 30 #[f.C,now,i] w fun e w'=>e= .returned (.tuple #[])/\kf f (c.step now i) w'/\nA f w w':=by
 have q:=h.cell 28 c.st Z;have k:=Bs c.st i hs he;have G:=H h
 cases hx:gb c.st i with
 | none =>
  rw[hx]at k;have l:=H (show c.step now i=c by unfold Cn.step;rw[hx]);rw[l.o]
  go_enter Tryz.func30,Tryz.ntmps30
  go_wp2_with fail;refine(qx c.st i _ h.gl.I7).mono ?_;rintro e z⟨rfl,j⟩;have m:yR c.st i=170:=by unfold yR;rw[L7 k]
  rw[m];go_wp2_with fail;exact Lm (LV Z _ _ _) Z ⟨Z,h.below j,.A1 j⟩
 | some n =>
  rw[hx]at k;have r:n≠ -1:=by have:=sI hx;omega
  go_enter Tryz.func30,Tryz.ntmps30
  go_wp2_with fail;refine(qx c.st i _ h.gl.I7).mono ?_;rintro e z⟨rfl,j⟩;have m:yR c.st i=0:=by unfold yR;rw[L5 (by rw[k];exact r)]
  have s:A8 c.st i=n:=by unfold A8;rw[L5 (by rw[k];exact r),k]
  rw[m,s];have b:=H (h.below j);have t:=H j;have A:=b.out.free 28;have B:=b.out.free 34;have E:=b.out.free 35;have p:=b.out.free 36;have q:=b.out.cell 28 c.st Z;clear j k m s;by_cases u:n=9
  ·subst u;go_wp2_with fail;refine(dR _ _ _).mono ?_;rintro e I⟨rfl,j⟩;have a:=H (b.out.below j);have F:=H j;have A:=a.out.free 28;have B:=a.out.free 34;have E:=a.out.free 35;have p:=a.out.free 36;have q:=a.out.cell 28 c.st Z;have J:=a.out.cell 34 c.per.set Z;have K:=a.out.cell 35 c.per.since Z;have L:=a.out.cell 36 c.per.ticks Z;go_wp2_with fail
   go_end0
   have l:c.step now i={ c with per:=.wA now 60,st:=9 }:=by unfold Cn.step;rw[hx];rfl
   rw[l];exact⟨Z,(((a.out.set 34 _ { c with per:=⟨true,c.per.since,c.per.ticks⟩ } Z Z Z Z Z).set 35 _ { c with per:=⟨true,now,c.per.ticks⟩ } Z Z Z Z Z).set 36 _ { c with per:=.wA now 60 } Z Z Z Z Z).set 28 _ _ Z Z Z Z Z,(nA.A1 (ai t.o F.o)).trans (.Da ((((lh.refl _ _).setCell 34 _).setCell 35 _).setCell 36 _ |>.setCell 28 _))⟩
  go_wp2_with fail
  go_end0
  have l:c.step now i={ c with st:=n }:=by unfold Cn.step;rw[hx];dsimp only;rw[L5 u]
  rw[l];exact⟨Z,b.out.set 28 _ _ Z Z Z Z Z,(nA.A1 t.o).trans (.Da ((lh.refl _ _).setCell 28 _))⟩
theorem eR (f:Fp)(c:Cn)(now a j:Int)(w:World)(h:kf f c w)(hs:0<=c.st/\c.st<=9)(he:1<=a/\a<=9) :
  Calls Tryz.prog 42 #[f.C,now,a,j] w fun e w'=>e= .returned (.tuple #[])/\kf f (c.finish now a j) w'/\nA f w w':=by
 go_enter Tryz.func42,Tryz.ntmps42
 go_wp2_with fail;refine(cU f c now a _ h hs he).mono ?_;rintro e m⟨rfl,i,b⟩;have k:=H i;have l:=H b;have n:=i.free 29;have o:=i.cell 29 (c.step now a).err Z;clear i b;go_wp2_with fail
 go_end0
 exact⟨Z,k.set 29 _ (c.finish now a j) Z Z Z Z Z,l.trans (.Da ((lh.refl _ _).setCell 29 _))⟩
theorem rE (f:Fp)(c:Cn)(m:Int)(w:World)(h:kf f c w)(ok:c.bx.Ok)(ha: -1099511627776<=c.ann/\c.ann<=2199023255552)(hr:0<=c.room/\c.room<=8192) :
  Calls Tryz.prog 113 #[.pointer (some ⟨f.C,11,none⟩),m] w fun e w'=>e= .returned (c.raised m)/\Below w.heap.size w w':=by
 have hs:=H h;by_cases i:c.tE m=true
 ·have j:=H (show c.raised m=c.most by unfold Cn.raised;rw[L7 i]);rw[j.o];clear j
  go_enter Tryz.func113,Tryz.ntmps113
  go_wp2_with fail;refine(iC f c m _ hs.out ok ha hr).mono ?_;rintro e q⟨rfl,b⟩;have a:=H (hs.out.below b);have n:=a.out.cell 11 f.X Z;have p:=a.out.cell 14 c.ann Z;have l:=H b;clear b;rw[i];clear i;go_wp2;go_ret;exact⟨Z,l.o⟩
 have j:=H (show c.raised m=max c.ann c.bx.nx by unfold Cn.raised;rw[L5 i]);have k:c.tE m=false:=Jl
 rw[j.o];clear j
 go_enter Tryz.func113,Tryz.ntmps113
 go_wp2_with fail;refine(iC f c m _ hs.out ok ha hr).mono ?_;rintro e q⟨rfl,b⟩;have a:=H (hs.out.below b);have n:=a.out.cell 11 f.X Z;have p:=a.out.cell 14 c.ann Z;have l:=H b;clear b;rw[k];clear i k;go_wp2_with fail
 go_quiet ((go_at_call 83;exact qs (co _ _ _ _ _ (a.out.bx.drewN _))))
 all_goals
  go_wp2
  go_ret;exact⟨Z,l.trans ((Below.drewN' _ _).mono l.size)⟩
theorem pT (f:Fp)(c:Cn)(now:Int)(w:World)(h:kf f c w) :
  Calls Tryz.prog 140 #[.pointer (some ⟨f.C,11,none⟩),now] w fun e w'=>e= .returned (.tuple #[])/\kf f (c.rl now) w'/\nA f w w':=by
 have k:=h.cell 18 c.pend Z;have t:=h.free 18;have hs:=H h;by_cases l:c.pend=0
 ·have b:=H (show c.rl now={ c with pend:=1,pd:=.wA now 2 } by unfold Cn.rl;rw[L5 O]);rw[b.o];clear b
  go_enter Tryz.func140,Tryz.ntmps140
  go_wp2_with fail;have h1:kf f { c with pend:=1 } (w.setCell ⟨f.C,18,none⟩ (1:Int)):=h.set 18 _ _ Z Z Z Z Z;refine(dR _ _ _).mono ?_;rintro e u⟨rfl,i⟩;have a:=H (h1.below i);have m:=H ((nA.Da (f:=f) ((lh.refl f.C w).setCell 18 (1:Int))).trans (.A1 i));have n:=a.out.free 19;have z:=a.out.free 20;have A:=a.out.free 21;have p:=a.out.cell 19 c.pd.set Z;have q:=a.out.cell 20 c.pd.since Z;have r:=a.out.cell 21 c.pd.ticks Z;clear h1 i;go_wp2_with fail
  go_end0
  exact⟨Z,((a.out.set 19 _ { c with pend:=1,pd:=⟨true,c.pd.since,c.pd.ticks⟩ } Z Z Z Z Z).set 20 _ { c with pend:=1,pd:=⟨true,now,c.pd.ticks⟩ } Z Z Z Z Z).set 21 _ { c with pend:=1,pd:=.wA now 2 } Z Z Z Z Z,m.trans (.Da ((((lh.refl _ _).setCell 19 _).setCell 20 _).setCell 21 _))⟩
 have b:=H (show c.rl now=c.gB by unfold Cn.rl;rw[L7 l];rfl);rw[b.o];clear b
 go_enter Tryz.func140,Tryz.ntmps140
 go_wp2_with fail;refine(cK f c _ hs.out).mono ?_;rintro e B⟨rfl,s,j⟩;go_wp2_with fail;exact Lm (LV Z _ _ _) Z ⟨Z,s,j⟩
end
section
open Go.RowKit Go.Shelf
def dZ (g:Sg)(a:Option Addr)(cap:Nat):Value:=.agg #[g.fp,g.tp,g.sq,g.ak,g.syn,g.fin,g.qa,g.has,g.win,g.gi,g.iu,.slice a g.bl.length cap,.string ⟨g.s.toArray⟩]
theorem iE (l:List UInt8)(a b:Nat):(⟨l.toArray⟩:ByteArray).extract a b=⟨((l.take b).drop a).toArray⟩:=by rw[yX,List.drop_take]
theorem jV (f:Fp)(c:Cn)(n:Int)(w:World)(h:kf f c w) :
  Calls Tryz.prog 80 #[f.C,n] w fun e w'=>e= .returned (dZ (c.qH n) none 0)/\Below w.heap.size w w':=by
 have a:=h.lt;have b:f.C≠w.heap.size:=O
 have i:=h.cell 22 c.cf.fp Z;have j:=h.cell 23 c.cf.tp Z
 go_enter Tryz.func80,Tryz.ntmps80
 go_wp2
 go_region
 all_goals
  go_wp2
  refine Lm (v:=dZ (c.qH n) none 0) (M3 (p:=4) (ty:=53) Z _ _ w.heap.size 53 _ (0,0) _ IJ (Lp _ _) Tryz.underlying53 Z IG) Z ⟨Z,((L3 _ _).alloc (L4 _) _).drew⟩
theorem mi (w:World)(o p:Obj):((w.alloc o).alloc p).heap[w.heap.size+1]? =some p:=by
 have:=Lp (w.alloc o) p
 rwa [LX]at this
theorem jw (f:Fp)(c:Cn)(g:Sg)(a:Option Addr)(cap:Nat)(off:Int)(w:World)(h:kf f c w) :
  Calls Tryz.prog 70 #[f.C,dZ g a cap,off] w fun e w'=>e= .returned (dZ (c.address g off) a cap)/\Below w.heap.size w w':=by
 have b:=h.lt;have i:f.C≠w.heap.size:=O
 have j:=h.cell 13 c.room Z;have q:=h.cell 22 c.cf.fp Z;have r:=h.cell 23 c.cf.tp Z;have s:=h.cell 24 c.cf.kc Z;obtain⟨g1,t,u,z,k,A,B,E,F,l,m,n,o⟩:=g
 cases k
 all_goals
  unfold dZ;dsimp only
  go_enter Tryz.func70,Tryz.ntmps70
  go_wp2_with fail;refine(gt _ _ _).mono ?_;rintro e G⟨rfl,rfl⟩;go_wp2_with fail
 ·refine Lm (M3 (p:=6) (ty:=53) Z _ _ (w.heap.size+1) 53 _ (0,0) _ IJ (mi _ _ _) Tryz.underlying53 Z IG) Z ⟨Z,((L3 _ _).alloc (L4 _) _).alloc FE _⟩
 refine Lm (M3 (p:=6) (ty:=53) Z _ _ (w.heap.size+1) 53 _ (0,0) _ IJ (mi _ _ _) Tryz.underlying53 Z IG) Z ⟨Z,((L3 _ _).alloc (L4 _) _).alloc FE _⟩
end
section
open Go.RowKit Go.Shelf
set_option maxHeartbeats 1000000 in
theorem iF (f:Fp) (c:Cn) (w:World) (h:kf f c w) :
  Calls Tryz.prog 95 #[f.C] w fun e w'=>e= .returned c.refusal/\Below w.heap.size w w':=by
 have hs:=H h
 go_enter Tryz.func95,Tryz.ntmps95
 go_wp2_with fail;refine(bV f c _ hs.out).mono ?_;rintro e l⟨rfl,b⟩;have a:=H (hs.out.below b);have k:=H b;have m:=a.out.cell 9 c.shut Z;have n:=a.out.cell 28 c.st Z;clear b;by_cases h0:c.st=0
 ·have j:=H (show c.refusal=c.failure by unfold Cn.refusal;rw[L7 h0]);have i:decide (c.st=0)=true:=Lc h0;rw[i];clear i h0;go_wp2_with fail;refine(iD f c _ a.out).mono ?_;rintro e p⟨rfl,b⟩;go_wp2;go_ret;exact⟨by rw[<-j.o];rfl,ai k.o b⟩
 have j:=H (show c.refusal=if c.shut=false/\(c.st=1\/c.st=2\/c.st=3\/c.st=6)then 0 else 183 by unfold Cn.refusal;rw[L5 h0]);have i:decide (c.st=0)=false:=Lf h0;rw[i];clear i;go_wp2_with fail
 all_goals
  go_ret;refine⟨cH ?_,k.o⟩;rw[j.o]
  simp_all
theorem sj (f:Fp)(c:Cn)(w:World)(h:kf f c w)(hl:c.held.length<=1099511627776)(m:0<=c.cf.keep/\c.cf.keep<=1099511627776) :
  Calls Tryz.prog 96 #[f.C] w fun e w'=>e= .returned c.space/\Below w.heap.size w w':=by
 have hz:(⟨c.held.toArray⟩:ByteArray).size=c.held.length:=IL
 have hs:=H h;by_cases j:c.refusal=0
 ·have a:=H (show c.space=max 0 (c.cf.keep-c.held.length) by unfold Cn.space;rw[L5 O]);rw[a.o];clear a
  go_enter Tryz.func96,Tryz.ntmps96
  go_wp2_with fail;refine(iF f c _ hs.out).mono ?_;rintro e l⟨rfl,b⟩;rw[j];have i:=H (hs.out.below b);have k:=H b;have n:=i.out.cell 3 (.string ⟨c.held.toArray⟩) Z;have an:=i.out.cell 27 c.cf.keep Z;clear b j;go_wp2_with fail
  go_region
  all_goals
   go_wp2
   go_ret;exact⟨Z,k.trans ((Below.drewN' _ 1).mono k.size)⟩
 have a:=H (show c.space=0 by unfold Cn.space;rw[L7 j]);rw[a.o];clear a
 go_enter Tryz.func96,Tryz.ntmps96
 go_wp2_with fail;refine(iF f c _ hs.out).mono ?_;rintro e l⟨rfl,b⟩;go_wp2;go_ret;exact⟨Z,b⟩
end
section
open Go.RowKit Go.Shelf
abbrev cQ := Sg × Option Addr × Nat
def aY (x:cQ):List Value:=[x.1.fp,x.1.tp,x.1.sq,x.1.ak,x.1.syn,x.1.fin,x.1.qa,x.1.has,x.1.win,x.1.gi,x.1.iu,.slice x.2.1 x.1.bl.length x.2.2,.string ⟨x.1.s.toArray⟩]
def eT (L:List cQ):List Value:=L.flatMap aY
theorem pU (A B:List cQ):eT (A++B)=eT A++eT B:=MA ..
theorem pV (L:List cQ):(eT L).length=L.length*13:=by
 induction L with
 | nil=>rfl
 | cons x L a=>show(aY x++eT L).length=_;rw[La,a,Lx];show 13+_=_;omega
theorem vl (L:List cQ)(i:Nat)(h:i<L.length)(j:Nat)(b:j<13):(eT L)[i*13+j]? =(aY L[i])[j]? :=by
 induction L generalizing i with
 | nil=>simp at h
 | cons x L a =>
  show(aY x++eT L)[i*13+j]? =_
  cases i with
  | zero=>rw[Mj (by show 0*13+j<13;omega)];simp
  | succ i =>
   rw[Mh (by show 13<=_;omega)];rw[show(i+1)*13+j-(aY x).length=i*13+j by show _-13=_;omega]
   simpa using a i IT
theorem vq (L:List cQ):∀u∈eT L,u.oneCell'=true:=by
 intro u a;obtain⟨x,_,h⟩:=List.mem_flatMap.1 a
 simp[aY]at h
 rcases h with rfl | rfl | rfl | rfl | rfl | rfl | rfl | rfl | rfl | rfl | rfl | rfl | rfl <;> rfl
theorem rF:(Tryz.prog.info? 53).map (fun i=>(i.zero,i.size,i.bytes))=some (some (.agg #[(0:Int),(0:Int),(0:Int),(0:Int),false,false,false,false,(0:Int),(0:Int),false,.slice none 0 0,.string ⟨#[]⟩]),13,104):=by kernel_rfl
def bF (w:World)(a:Option Addr)(L:List Sp):Prop:=oB w w.heap.size a L/\(0<L.length->∀b,a=some b->dX w b.block 149)
theorem bF.nil (w:World)(a:Option Addr):bF w a []:=⟨⟨FE,fun h=>by simp at h⟩,fun h=>by simp at h⟩
theorem bF.keep {w w':World}{a:Option Addr}{L:List Sp}(h:bF w a L)(hs:w.heap.size<=w'.heap.size)(b:aG w w'):bF w' a L :=
 ⟨h.1.keep h.2 hs b,fun i j e=>(h.2 i j e).of (b _ (h.2 i j e))⟩
def cI (w:World)(base:Nat)(v:Value)(L:List cQ):Prop:=w.ownsRow base 53 13 v L.length (eT L)/\∀x∈L,bF w x.2.1 x.1.bl
def aL (w:World)(base:Nat)(v:Value)(L:List Sg):Prop:=∃M:List cQ,M.map (·.1)=L/\cI w base v M
theorem cI.nil (w:World)(base:Nat):cI w base (.slice none 0 0) []:=⟨Nv _ _ _ _,fun _ h=>by simp at h⟩
theorem aL.nil (w:World)(base:Nat):aL w base (.slice none 0 0) []:=⟨[],Z,cI.nil w base⟩
theorem cI.lt {w:World}{base:Nat}{v:Value}{L:List cQ}(h:cI w base v L):∀k,v.ownBlock=some k->base<=k/\k<w.heap.size:=ME h.1
theorem cI.ty {w:World}{base:Nat}{v:Value}{L:List cQ}(h:cI w base v L):∀k,v.ownBlock=some k->dX w k 53:=by
 rcases h.1.2 with⟨rfl,l⟩ | ⟨g,a,b,rfl,i,j,r⟩
 ·intro k e;cases e
 intro k e;cases e;exact⟨_,_,j⟩
theorem cI.keep {w w':World}{base:Nat}{v:Value}{L:List cQ}(h:cI w base v L)(hs:w.heap.size<=w'.heap.size)(i:aG w w')(j:∀k,v.ownBlock=some k->w'.heap[k]? =w.heap[k]?):cI w' base v L:=by
 refine⟨⟨h.1.1,?_⟩,fun x l=>(h.2 x l).keep hs i⟩
 rcases h.1.2 with m | ⟨g,a,b,rfl,e,n,r⟩
 ·exact .inl m
 exact .inr ⟨g,a,b,Z,e,(j g Z).trans n,r⟩
theorem cI.below {w w':World}{base:Nat}{v:Value}{L:List cQ}(h:cI w base v L)(a:Below w.heap.size w w'):cI w' base v L :=
 h.keep a.size (.below a) (fun k e=>a.block k (h.lt k e).2)
theorem cI.mono {w:World}{base a:Nat}{v:Value}{L:List cQ}(h:cI w base v L)(j:a<=base):cI w a v L:=by
 refine⟨⟨h.1.1,?_⟩,h.2⟩
 rcases h.1.2 with h | ⟨g,b,e,k,i,r⟩
 ·exact .inl h
 exact .inr ⟨g,b,e,k,L8 j i,r⟩
theorem aL.below {w w':World}{base:Nat}{v:Value}{L:List Sg}(h:aL w base v L)(a:Below w.heap.size w w'):aL w' base v L:=by
 obtain⟨M,e,h⟩:=h;exact⟨M,e,h.below a⟩
theorem aL.mono {w:World}{base a:Nat}{v:Value}{L:List Sg}(h:aL w base v L)(b:a<=base):aL w a v L:=by
 obtain⟨M,e,h⟩:=h;exact⟨M,e,h.mono b⟩
theorem cI.val {w:World}{base:Nat}{v:Value}{L:List cQ}(h:cI w base v L):∃a cap,v= .slice a L.length cap/\L.length<=cap/\∀b,a=some b->b=⟨b.block,0,none⟩:=by
 rcases h.1.2 with⟨rfl,k⟩ | ⟨g,cap,l,m,n,q,i,o,p,j⟩
 ·exact⟨none,0,by rw[k],O,fun _ e=>by cases e⟩
 exact⟨_,cap,m,i,fun _ e=>by cases e;rfl⟩
theorem cI.cells {w:World}{base:Nat}{v:Value}{L:List cQ}(h:cI w base v L)(l:0<L.length) :
  ∃g cap,v= .slice (some ⟨g,0,none⟩) L.length cap/\base<=g/\g<w.heap.size/\L.length<=cap/\∀j u,(eT L)[j]? =some u->w.cell? ((⟨g,0,none⟩:Addr).add j)=some u:=by
 rcases h.1.2 with⟨rfl,m⟩ | ⟨g,cap,e,rfl,a,i,b,r⟩
 ·omega
 exact⟨g,cap,Z,a,(L6.1 i).1,b,fun j u k=>N8 h.1 (g:=g) Z j u k⟩
theorem cI.t8 {w w':World}{base:Nat}{v:Value}{L:List cQ}(h:cI w base v L)(i:w.grownBy w' v.ownBlock):aG w w':=fun b a =>
 i.block b a.lt (fun e=>(a.ne (h.ty b e.symm) D) Z)
theorem jW (w:World){l:Array Oper}{rest:List Oper}{o:Oper}{a:Act}{Q:Exit->Act->World->Prop}(n:o.guard=none)(s x:Operand)
  (ho:o.op= .call { callee:=.builtin .append,args:= #[s,x],argTypes:= #[44,44] })(base:Nat)
  (v:Value)(L:List cQ)(hs:a.eval s=v)(e:cI w base v L)
  (b off c:Nat)(M:List cQ)(hx:a.eval x= .slice (some ⟨b,off,none⟩) M.length c)(z:∀j u,(eT M)[j]? =some u->w.cell? ((⟨b,off,none⟩:Addr).add j)=some u)(A:∀y∈M,bF w y.2.1 y.1.bl)(G:L.length+M.length<=1300000000000)(i:base<=w.heap.size)
  (h:∀v' w',cI w' base v' (L++M)->w.grownBy w' v.ownBlock->(v'.ownBlock=v.ownBlock\/∃k,v'.ownBlock=some k/\w.heap.size<=k)->wpList Tryz.prog l Q rest (a.put o.dst v') w'):wpList Tryz.prog l Q (o::rest) a w:=by
 obtain⟨B,hi,p,q,r⟩:=MG rF
 obtain⟨v',w',C,h2,m,E⟩:=bg (P:=Tryz.prog) w base 44 o.type 53 B _ 13 104 Tryz.underlying44 hi p q r Z (by decide) v L.length (eT L) e.1 ⟨b,off,none⟩ M.length c (eT M) (pV M)
  z (vq M) (by unfold maxLen;omega) (by omega) i
 refine NC n fun K F=> ?_;unfold Oper.wp execOp;simp only[ho,resolve,invoke,builtin,MU,MT,My,MF,M6,Mp,hs,hx,C];have t:=e.t8 m;refine F _ _ (h v' w' ⟨?_,fun y hy=> ?_⟩ m E)
 ·rw[La,pU];exact h2
 rcases LE.1 hy with hy | hy
 ·exact(e.2 y hy).keep m.size t
 exact(A y hy).keep m.size t
theorem jX (w:World){b:Array Oper}{rest:List Oper}{o:Oper}{a:Act}{Q:Exit->Act->World->Prop}(j:o.guard=none)(s x:Operand)
  (ho:o.op= .call { callee:=.builtin .append,args:= #[s,x],argTypes:= #[44,44] })(base:Nat)
  (v:Value)(L:List cQ)(hs:a.eval s=v)(e:cI w base v L)(l:Option Addr)(c:Nat)(hx:a.eval x= .slice l 0 c)
  (h:wpList Tryz.prog b Q rest (a.put o.dst v) w):wpList Tryz.prog b Q (o::rest) a w:=by
 obtain⟨m,k,rfl,i,-⟩:=e.val;obtain⟨n,hi,-,-,-⟩:=MG rF;have p:=li (P:=Tryz.prog) w 44 o.type 53 n hi Tryz.underlying44 m L.length k i l c;refine NC j fun K q=> ?_;unfold Oper.wp execOp;simp only[ho,resolve,invoke,builtin,MU,MT,My,MF,M6,Mp,hs,hx,p];exact q _ _ h
def Ac (w:World)(base:Nat)(v:Value)(L:List cQ)(e:Ending)(w':World):Prop :=
 ∃v',e= .returned v'/\cI w' base v' L/\w.grownBy w' v.ownBlock/\(v'.ownBlock=v.ownBlock\/∃k,v'.ownBlock=some k/\w.heap.size<=k)
theorem cN (w:World)(base:Nat)(v:Value)(L:List cQ)(e:cI w base v L)(b off c:Nat)(M:List cQ)(h:∀j u,(eT M)[j]? =some u->w.cell? ((⟨b,off,none⟩:Addr).add j)=some u)(i:∀y∈M,bF w y.2.1 y.1.bl)(k:L.length+M.length<=1300000000000)(a:base<=w.heap.size) :
  Calls Tryz.prog 31 #[v,.slice (some ⟨b,off,none⟩) M.length c] w (Ac w base v (L++M)):=by
 go_enter Tryz.func31,Tryz.ntmps31
 go_wp2_with (at_builtin;refine jW _ Z _ _ Z base _ L Z e b off c M Z h i k a ?_)
 intro v' m h1 h2 l;go_wp2;go_ret;exact⟨v',Z,h1,h2,l⟩
theorem vt (w:World)(base:Nat)(v:Value)(L:List cQ)(a:cI w base v L)(b:Option Addr)(c:Nat) :
  Calls Tryz.prog 31 #[v,.slice b 0 c] w (fun e w'=>e= .returned v/\w=w'):=by
 go_enter Tryz.func31,Tryz.ntmps31
 go_wp2_with (at_builtin;refine jX _ Z _ _ Z base _ L Z a b c Z ?_)
 go_wp2;go_ret;exact⟨Z,Z⟩
theorem bj {w:World}{b:Nat}{t:TypeId}{a:Nat×Nat}{x:cQ}(h:w.heap[b]? =some (.cells (aY x).toArray t a)):∀j u,(eT [x])[j]? =some u->w.cell? ((⟨b,0,none⟩:Addr).add j)=some u:=by
 intro j u e;rw[Ms,MN,Ln _ _ _ _ _ _ h]
 simpa[eT]using e
theorem kf.grown {f:Fp}{c:Cn}{w w':World}{r:Option Nat}(h:kf f c w)(i:w.grownBy w' r)(hr:∀k,r=some k->dX w k 53/\eQ<=k):kf f c w':=by
 have a:∀b t,dX w b t->t≠53->w'.heap[b]? =w.heap[b]? :=fun b t j l=>i.block b j.lt (fun e=>j.ne (hr b e.symm).1 l Z);refine h.keep ⟨i.os,i.tape,i.output,i.size,fun k m=>i.block k (Lb m h.gl.top) (fun e=>by have:=(hr k e.symm).2;omega)⟩ i.size (fun b j=>a b _ j D) (a _ _ h.zs D) (a _ _ h.BU D) (a _ _ h.BW D) (a _ _ h.BX D) (a _ _ h.BY D) (a _ _ h.Cd D)
theorem nA.grown {f:Fp}{w b w':World}{r:Option Nat}(h:nA f w b)(a:b.grownBy w' r)(hr:∀k,r=some k->w.heap.size<=k):nA f w w' :=
 ⟨a.os.trans h.os,a.tape.trans h.tape,a.output.trans h.output,L8 h.size a.size,fun k i h1 h2 j l m n=>(a.block k (Lb i h.size) (fun e=>by have:=hr k e.symm;omega)).trans (h.block k i h1 h2 j l m n)⟩
theorem cI.sT {f:Fp}{c:Cn}{w w':World}{base:Nat}{v:Value}{L:List cQ}(h:cI w base v L)(a:kf f c w)(b:nA f w w'):cI w' base v L :=
 h.keep b.size (a.t8 b) (fun k e=>b.block k (h.lt k e).2 ((h.ty k e).ne a.zs D) ((h.ty k e).ne a.BU D) ((h.ty k e).ne a.BW D) ((h.ty k e).ne a.BX D) ((h.ty k e).ne a.BY D) ((h.ty k e).ne a.Cd D))
theorem bF.sT {f:Fp}{c:Cn}{w w':World}{a:Option Addr}{L:List Sp}(h:bF w a L)(e:kf f c w)(b:nA f w w'):bF w' a L:=h.keep b.size (e.t8 b)
end
section
open Go.RowKit Go.Shelf
def aT (B:Nat)(x:cQ)(W:World):Prop:=W.heap[B]? =some (.cells (aY x).toArray 53 (0,0))
theorem aT.new (w:World)(x:cQ):aT w.heap.size x (w.alloc (.cells (aY x).toArray 53)):=Lp _ _
theorem aT.lt {B:Nat}{x:cQ}{W:World}(h:aT B x W):B<W.heap.size:=(L6.1 h).1
theorem aT.ty {B:Nat}{x:cQ}{W:World}(h:aT B x W):dX W B 53:=⟨_,_,h⟩
theorem aT.below {B:Nat}{x:cQ}{W W':World}(h:aT B x W)(a:Below W.heap.size W W'):aT B x W':=(a.block B h.lt).trans h
theorem aT.set {B:Nat}{x y:cQ}{W:World}(h:aT B x W)(i:Nat)(v:Value)(he:(aY x).toArray.setIfInBounds i v=(aY y).toArray):aT B y (W.setCell ⟨B,i,none⟩ v):=by
 unfold aT;rw[LH _ _ _ _ _ _ h,he]
theorem aT.cell {B:Nat}{x:cQ}{W:World}(h:aT B x W)(i:Nat)(v:Value)(a:(aY x)[i]? =some v):W.cell? ⟨B,i,none⟩=some v:=by
 rw[Ln _ _ _ _ _ _ h]
 simpa using a
theorem aT.free {B:Nat}{x:cQ}{W:World}(h:aT B x W)(i:Nat):W.frozen? ⟨B,i,none⟩=false:=LT _ _ _ _ _ h
theorem aT.sT {B:Nat}{x:cQ}{f:Fp}{c:Cn}{W W':World}(h:aT B x W)(a:kf f c W)(b:nA f W W'):aT B x W' :=
 (b.block B h.lt (h.ty.ne a.zs D) (h.ty.ne a.BU D) (h.ty.ne a.BW D) (h.ty.ne a.BX D) (h.ty.ne a.BY D) (h.ty.ne a.Cd D)).trans h
theorem kf.beside {f:Fp}{c:Cn}{w w':World}{B:Nat}{t:TypeId}(h:kf f c w)(e:dX w B t)(a:lh B w w')(q:eQ<=B)
  (h1:t≠85)(h2:t≠135)(j:t≠142)(l:t≠132)(m:t≠120)(n:t≠5)(o:t≠149):kf f c w':=by
 refine h.keep ⟨a.os,a.tape,a.output,a.size,fun k p=>a.block k (Lb p h.gl.top) O⟩ a.size (fun b i=>a.block b i.lt (i.ne e o.symm)) (a.block _ h.zs.lt (h.zs.ne e h1.symm)) (a.block _ h.BU.lt (h.BU.ne e h2.symm)) (a.block _ h.BW.lt (h.BW.ne e j.symm)) (a.block _ h.BX.lt (h.BX.ne e l.symm)) (a.block _ h.BY.lt (h.BY.ne e m.symm)) (a.block _ h.Cd.lt (h.Cd.ne e n.symm))
theorem nA.GE {f:Fp}{w b:World}(h:nA f w b){B:Nat}(o:w.heap.size<=B)(i:Nat)(v:Value):nA f w (b.setCell ⟨B,i,none⟩ v):=by
 have a:lh B b (b.setCell ⟨B,i,none⟩ v):=(lh.refl _ _).setCell i v;exact⟨a.os.trans h.os,a.tape.trans h.tape,a.output.trans h.output,L8 h.size a.size,fun k e h1 h2 j l m n=>(a.block k (Lb e h.size) O).trans (h.block k e h1 h2 j l m n)⟩
def du (W:World)(B:Nat)(x:cQ):World:=(((((((((((((W.setCell B x.1.fp).setCell ⟨B,1,none⟩ x.1.tp).setCell ⟨B,2,none⟩ x.1.sq).setCell ⟨B,3,none⟩ x.1.ak).setCell ⟨B,4,none⟩ x.1.syn).setCell ⟨B,5,none⟩ x.1.fin).setCell ⟨B,6,none⟩ x.1.qa).setCell ⟨B,7,none⟩ x.1.has).setCell ⟨B,8,none⟩ x.1.win).setCell ⟨B,9,none⟩ x.1.gi).setCell ⟨B,10,none⟩ x.1.iu).setCell ⟨B,11,none⟩ (.slice x.2.1 x.1.bl.length x.2.2)).setCell ⟨B,12,none⟩ (.string ⟨x.1.s.toArray⟩))
theorem eE (W:World)(B:Nat)(x:cQ):lh B W (du W B x):=((((((((((((((lh.refl B W).setCell 0 _).setCell 1 _).setCell 2 _).setCell 3 _).setCell 4 _).setCell 5 _).setCell 6 _).setCell 7 _).setCell 8 _).setCell 9 _).setCell 10 _).setCell 11 _).setCell 12 _)
theorem dC {B:Nat}{vs:Array Value}{W:World}(h:W.heap[B]? =some (.cells vs 53 (0,0)))(i:Nat)(v:Value):(W.setCell ⟨B,i,none⟩ v).heap[B]? =some (.cells (vs.setIfInBounds i v) 53 (0,0)):=LH _ _ _ _ _ _ h
theorem aT.put {B:Nat}{x y:cQ}{W:World}(h:aT B x W):aT B y (du W B y):=by
 have:=dC (dC (dC (dC (dC (dC (dC (dC (dC (dC (dC (dC (dC h 0 y.1.fp) 1 y.1.tp) 2 y.1.sq) 3 y.1.ak) 4 y.1.syn) 5 y.1.fin) 6 y.1.qa) 7 y.1.has) 8 y.1.win) 9 y.1.gi) 10 y.1.iu) 11 (.slice y.2.1 y.1.bl.length y.2.2)) 12 (.string ⟨y.1.s.toArray⟩);simp only[aY,Ld,Li,Lk]at this;exact this
theorem nA.GF {f:Fp}{w b e:World}(h:nA f w b){B:Nat}(o:w.heap.size<=B)(a:lh B b e):nA f w e :=
 ⟨a.os.trans h.os,a.tape.trans h.tape,a.output.trans h.output,L8 h.size a.size,fun k i h1 h2 j l m n=>(a.block k (Lb i h.size) O).trans (h.block k i h1 h2 j l m n)⟩
theorem kf.GG {f:Fp}{c:Cn}{w w':World}{B:Nat}{x:cQ}(h:kf f c w)(a:aT B x w)(b:eQ<=B)(e:lh B w w'):kf f c w' :=
 h.beside a.ty e b D D D D D D D
theorem aT.BS {B C:Nat}{x:cQ}{W W':World}(h:aT B x W)(b:lh C W W')(a:B≠C):aT B x W':=(b.block B h.lt a).trans h
def rq (f:Fp)(c:Cn)(w W:World):Prop:=∃a,kf f c a/\a.heap.size=w.heap.size/\lh f.C w a/\Below w.heap.size a W
theorem rq.start {f:Fp}{c:Cn}{w:World}(h:kf f c w):rq f c w w:=⟨w,h,Z,lh.refl _ _,L3 _ _⟩
theorem rq.cn {f:Fp}{c:Cn}{w W:World}(h:rq f c w W):kf f c W:=by
 obtain⟨b,h1,h2,e,a⟩:=h;exact h1.below (by rw[h2];exact a)
theorem rq.ch {f:Fp}{c:Cn}{w W:World}(h:rq f c w W):nA f w W:=by
 obtain⟨e,h1,h2,a,b⟩:=h;exact(nA.Da a).trans (.A1 (by rw[h2];exact b))
theorem rq.size {f:Fp}{c:Cn}{w W:World}(h:rq f c w W):w.heap.size<=W.heap.size:=by
 obtain⟨b,h1,h2,e,a⟩:=h;exact h2 ▸ a.size
theorem rq.below {f:Fp}{c:Cn}{w W W':World}(h:rq f c w W)(a:Below w.heap.size W W'):rq f c w W':=by
 obtain⟨b,h1,h2,e,i⟩:=h;exact⟨b,h1,h2,e,i.trans a⟩
theorem rq.set {f:Fp}{c:Cn}{w W:World}(h:rq f c w W)(i:Nat)(v:Value)(d:Cn)(he:(fT f c).setIfInBounds i v=fT f d)(o:d.sc=c.sc)(p:d.tm=c.tm)(q:d.cg=c.cg)(r:d.bx=c.bx):rq f d w (W.setCell ⟨f.C,i,none⟩ v):=by
 have l:=h.cn;obtain⟨m,h1,h2,s,b⟩:=h;refine⟨m.setCell ⟨f.C,i,none⟩ v,h1.set i v d he o p q r,by rw[Mu];exact h2,s.setCell i v,?_⟩;have e:lh f.C m (m.setCell ⟨f.C,i,none⟩ v):=(lh.refl _ _).setCell i v;have j:lh f.C W (W.setCell ⟨f.C,i,none⟩ v):=(lh.refl _ _).setCell i v;refine⟨(j.os.trans b.os).trans e.os.symm,(j.tape.trans b.tape).trans e.tape.symm,(j.output.trans b.output).trans e.output.symm,?_,fun k n=> ?_⟩
 ·rw[Mu,Mu];exact b.size
 by_cases a:k=f.C
 ·subst a;rw[LH _ _ _ _ _ _ l.blk,LH _ _ _ _ _ _ h1.blk]
 rw[j.block k (Lb (h2 ▸ n) b.size) a,e.block k (by rw[h2];exact n) a];exact b.block k n
structure Aq (f:Fp)(c:Cn)(w:World)(x:cQ)(W:World):Prop where
 old:rq f c w W
 p:aT w.heap.size x W
 r:aT (w.heap.size+1) (dH,none,0) W
 top:eQ<=w.heap.size
theorem jx {B:Nat}{x:cQ}{W W':World}(h:aT B x W)(a:lh B W W'):aG W W':=aG.BS a h.ty D
theorem oN {B N:Nat}{W W':World}(a:lh B W W')(b:N<=B)(e:N<=W.heap.size):Below N W W':=⟨a.os,a.tape,a.output,a.size,fun k h=>a.block k O O⟩
namespace Aq
variable {f : Fp} {c d : Cn} {w : World} {x y : cQ} {W W' : World}
theorem cn (h:Aq f c w x W):kf f c W:=h.old.cn
theorem ch (h:Aq f c w x W):nA f w W:=h.old.ch
theorem below (h:Aq f c w x W)(a:Below W.heap.size W W'):Aq f c w x W' :=
 ⟨h.old.below (a.mono h.old.size),h.p.below a,h.r.below a,h.top⟩
theorem drewN (h:Aq f c w x W)(n:Nat):Aq f c w x (W.drewN n):=h.below (Below.drewN' W n)
theorem BS (h:Aq f c w x W)(a:lh w.heap.size W W')(b:aT w.heap.size y W'):Aq f c w y W' :=
 ⟨h.old.below (oN a (L4 _) h.old.size),b,h.r.BS a O,h.top⟩
theorem EH (h:Aq f c w x W)(i:Nat)(v:Value)(y:cQ)(he:(aY x).toArray.setIfInBounds i v=(aY y).toArray):Aq f c w y (W.setCell ⟨w.heap.size,i,none⟩ v) :=
 h.BS ((lh.refl _ _).setCell i v) (h.p.set i v he)
theorem put (h:Aq f c w x W)(y:cQ):Aq f c w y (du W w.heap.size y) :=
 h.BS (eE _ _ _) h.p.put
theorem Gy (h:Aq f c w x W)(i:Nat)(v:Value)(d:Cn)(he:(fT f c).setIfInBounds i v=fT f d)(b:d.sc=c.sc)(e:d.tm=c.tm)(j:d.cg=c.cg)(k:d.bx=c.bx):Aq f d w x (W.setCell ⟨f.C,i,none⟩ v):=by
 have a:lh f.C W (W.setCell ⟨f.C,i,none⟩ v):=(lh.refl _ _).setCell i v;exact⟨h.old.set i v d he b e j k,h.p.BS a (h.p.ty.ne h.cn.zs D),h.r.BS a (h.r.ty.ne h.cn.zs D),h.top⟩
theorem start (h:kf f c w)(x:cQ):Aq f c w x ((w.alloc (.cells (aY x).toArray 53)).alloc (.cells (aY (dH,none,0)).toArray 53)):=by
 have a:=((L3 w.heap.size w).alloc (L4 _) (.cells (aY x).toArray 53)).alloc FE (.cells (aY (dH,none,0)).toArray 53);refine⟨(rq.start h).below a,(aT.new w x).below ((L3 _ _).alloc (L4 _) _),?_,h.gl.top⟩;have:=aT.new (w.alloc (.cells (aY x).toArray 53)) (dH,none,0)
 rwa [LX]at this
theorem result (h:Aq f c w x W)(y:cQ):aT (w.heap.size+1) y (du W (w.heap.size+1) y)/\kf f c (du W (w.heap.size+1) y)/\nA f w (du W (w.heap.size+1) y)/\∀a L,bF W a L->bF (du W (w.heap.size+1) y) a L:=by
 have b:=eE W (w.heap.size+1) y;have e:=h.old.below (oN b O h.old.size);exact⟨h.r.put,e.cn,e.ch,fun a L i=>i.keep b.size (jx h.r b)⟩
theorem grown (h:Aq f c w x W){r:Option Nat}(i:W.grownBy W' r)(hr:∀k,r=some k->w.heap.size<=k/\dX W k 149):Aq f c w x W':=by
 have a:∀b,dX W b 53->W'.heap[b]? =W.heap[b]? :=fun b j=>i.block b j.lt (fun e=>j.ne (hr b e.symm).2 D Z);exact⟨h.old.below (aR i h.old.size (fun k e=>(hr k e).1)),(a _ h.p.ty).trans h.p,(a _ h.r.ty).trans h.r,h.top⟩
end Aq
end
section
open Go.ChangeShapes Go.WideShapes Go.ChangeAt Go.RowKit
theorem C4:Tryz.prog.globalNamed "stagepost/congestion.errSize" = some 0:=by kernel_rfl
theorem C5:(Tryz.prog.globals[0]?).map (·.type)=some 123:=by kernel_rfl
theorem B4 : "*" ++ "errors.errorString" = "*errors.errorString" := by decide
theorem Cz (u:TypeId)(h:Tryz.prog.typeName? 3 u=some "*errors.errorString"):u=234 :=
 typeName_ptr_named (nm := "errors.errorString") (by rw[B4];kernel_rfl) IG D u (by rw[B4];exact h)
theorem vu {W:World}(h:laidMetH Tryz.prog [("stagepost/tcpstate.triples",Rows.laid_stagepost_tcpstate_triples),("stagepost/congestion.errSize",Rows.laid_stagepost_congestion_errSize)] W):Gl W:=by
 have e:laidMet Tryz.prog [("stagepost/tcpstate.triples",Rows.laid_stagepost_tcpstate_triples),("stagepost/congestion.errSize",Rows.laid_stagepost_congestion_errSize)] W:=h
 have i:fS W:=by
  obtain⟨t,j,b⟩:=vi (g:=1) (m:=3) (t:=180) IG IG IG e;exact⟨t,j,b.trans IG⟩
 obtain⟨a,s,l,_,_,_⟩:=laid_sentinel e.tail C4 C5 Tryz.underlying123 Cz Tryz.underlying234 Tryz.underlying258 Z Z Tryz.underlying9 IG IG;have k:W.cell? ⟨0,0,none⟩=some (.iface 234 (.pointer (some a))):=by simpa using World.var?_cell C4 l 0
 have n:mY a W:=⟨k,Lj k⟩;refine⟨i,⟨a,n⟩,?_⟩;obtain⟨t,j,b⟩:=i;exact(L6.1 b).1
def oO (cs:Array Value):Obj->Obj
 | .cells _ t frozen=>.cells cs t frozen
 | o=>o
noncomputable def low : Nat := (World.holding Tryz.prog default ⟨#[], #[], []⟩).heap.size
noncomputable def ky (os:Os):World :=
 let w0:=World.holding Tryz.prog os ⟨#[.cells #[.string ⟨#[115,101,103,109,101,110,116,32,115,105,122,101,32,111,117,116,32,111,102,32,114,97,110,103,101]⟩] 258],#[],[]⟩
 { w0 with heap:=(w0.heap.modify 1 (oO ij)).modify 0 (oO #[.iface 234 low]) }
end
end Go.Proofs.YtcmncipikdpnbaaGreatDoor
