import Derived.Test.YtcmncipikdpnbaaGreatDoorUb25
namespace Go.Proofs.YtcmncipikdpnbaaGreatDoor
section
set_option maxHeartbeats 8000000
set_option maxRecDepth 100000
open Go.RowKit Go.Shelf
def BR (f:Fp)(w:World)(b:Bool)(d:Cn)(e:Ending)(w':World):Prop:=e= .returned b/\kn f d w'/\ot f w w'
theorem fU (b:Bx):b.rep.length=0↔b.bl=[]:=by
 rw[Bx.Dw]
 constructor
 ·intro h;exact LU O
 intro h;rw[h];rfl
theorem lM (f:Fp) (c:Cn) (off:Int) (s:List UInt8) (w:World) (h:kn f c w) (ok:c.Ok) (ho: -2147483648<=off/\off<=2147483647) (hs:s.length<=1024) :
  Calls Tryz.prog 139 #[.pointer (some ⟨f.C,11,none⟩),off,.string ⟨s.toArray⟩] w (BR f w (c.F1 off s) (c.insert off s)):=by
 have I:=H ok;have a:=H h;have j:=H (ot.refl f w);have c7:=ok.sw;have hz:(⟨s.toArray⟩:ByteArray).size=s.length:=IQ
 obtain⟨ds,c8⟩:=ho;obtain⟨dv,a0⟩:=c7;clear h ok;have HB:=H (show ∃k:Bool,k=decide (c.bx.bl≠[])from⟨_,Z⟩);have l:=a.cell 11 f.X Z
 go_enter Tryz.func139,Tryz.ntmps139
 go_wp2_with fail;refine(co f.X f.R 0 c.bx _ a.bx).mono ?_;rintro e U⟨rfl,rfl⟩;go_wp2_with fail;refine(jJ f.X f.R 0 c.bx _ a.bx I.bx).mono ?_;rintro e U⟨ba,bc,rfl,-,-,-,k⟩;replace j:=H (j.trans (.Da k));replace a:=H (a.below k);clear k l;have a1:c.bx.rep.length<=3:=by rw[Bx.Dw];omega
 have n:=a.cell 15 c.ended Z;have J:=a.cell 16 c.sw Z;obtain⟨b,p⟩:∃b,b=if c.ended=true then s.take (min (max (c.sw-off) 0) s.length).toNat else s:=⟨_,Z⟩;have F:=H p;have eB:b.length<=1024:=by rw[p];split;(rw[Lg];omega);exact hs
 clear p
 go_upto_if 24 with fail
 go_cut [2]from 24 to 36 (fun K z=>K= .string ⟨b.toArray⟩/\z=U)
 case first =>
  cases he:c.ended with
  | true =>
   rw[he]at n;have i:=H (show b=s.take (min (max (c.sw-off) 0) s.length).toNat by rw[F.o,L9 he]);clear he;go_wp2_with fail
   all_goals
    go_meet
    case rel=>exact⟨by rw[i.o];rw[gu];rw[MK],Z⟩
  | false =>
   rw[he]at n;have i:=H (show b=s by rw[F.o,L7 (by rw[he];simp)]);clear he;go_wp2_with fail
   go_meet
   case rel=>exact⟨by rw[i.o],Z⟩
 case rest =>
  obtain⟨q,rfl⟩:=hcut;subst q;clear hz n J;have L:(⟨b.toArray⟩:ByteArray).size=b.length:=IQ
  obtain⟨g,r⟩:∃g,g=nO c.ended c.sw off s:=⟨_,Z⟩;have G:=H (show g=b.drop (if off<0 then(min (-off) b.length).toNat else 0) by rw[r,F.o];rfl);have M:g.length<=1024:=by rw[G.o,Lt];omega
  have HI:=H r;clear r
  go_upto_if 38 with fail
  go_cut [1,2]from 38 to 45 (fun v1 K z=>v1=((max off 0:Int):Y)/\K= .string ⟨g.toArray⟩/\z=wc)
  case first =>
   by_cases m:off<0
   ·have i:=H (show g=b.drop (min (-off) b.length).toNat by rw[G.o,L9 m]);have u:max off 0=0:=by omega
    go_wp2_with fail
    all_goals
     go_meet
     case rel=>exact⟨by rw[u],by rw[i.o];exact congrArg Value.string (lK _ _),Z⟩
   have i:=H (show g=b by rw[G.o,L7 m,MK]);have u:max off 0=off:=O
   go_wp2_with fail
   go_meet
   case rel=>exact⟨by rw[u],by rw[i.o],Z⟩
  case rest =>
   obtain⟨N,q,rfl⟩:=hcut;subst N;subst q;clear L;have P:=H (show c.Ca off s=if g=[]then c.bx else c.bx.put (max off 0) g by unfold Cn.Ca;rw[<-HI.o]);have c9:=H (I.insert c8 hs)
   go_upto_if 47 with fail
   go_cut []from 47 to 54 (fun z=>kn f (c.insert off s) z/\ot f w z)
   case first =>
    by_cases m:g=[]
    ·have i:=H (show c.insert off s=c by unfold Cn.insert;rw[P.o,L9 m]);subst m;go_wp2_with fail
     go_meet
     case rel=>exact⟨by rw[i.o];exact a.o,j.o⟩
    have i:=H (show c.insert off s={ c with bx:=c.bx.put (max off 0) g } by unfold Cn.insert;rw[P.o,L7 m])
    obtain⟨x,t,rfl⟩:∃x t,g=x::t:=by
     cases g with
     | nil=>exact absurd Z m
     | cons x t=>exact⟨x,t,Z⟩
    clear m;have l:=a.cell 11 f.X Z;go_wp2_with fail;refine(zm f.X f.R 0 c.bx (max off 0) ⟨(x::t).toArray⟩ _ a.bx I.bx (LZ _) (by have:=M;simp only[LC]at this;simp only[ByteArray.size,LJ,LC];omega)).mono ?_;rintro e V⟨rfl,A,y⟩;have HT:=H (show kn f (c.insert off s) V/\ot f w V from⟨by rw[i.o];exact a.Ik A y,j.trans (.I0 y)⟩);clear A y;go_wp2_with fail
    go_meet
    case rel=>exact HT.o
   case rest =>
    obtain⟨hc,E⟩:=hcut;replace a:=H hc;replace j:=H E;clear hc E P G F;have l:=a.cell 11 f.X Z;have S:=H (show c.F1 off s=decide ((c.Ca off s).nx≠c.bx.nx/\c.bx.bl=[]/\(c.Ca off s).bl=[])from Z);have a9:=H (show(c.Ca off s).Ok from c9.bx);go_wp2_with fail;refine(co f.X f.R 0 (c.Ca off s) _ a.bx).mono ?_;rintro e w4⟨rfl,rfl⟩;by_cases h1:(c.Ca off s).nx=c.bx.nx
    ·have T:=H (show c.F1 off s=false by rw[S.o];exact Lh (fun h=>h.1 h1));have hd:((c.Ca off s).nx==c.bx.nx)=true:=Me.2 h1;go_wp2;go_ret;exact⟨vC T.symm,a.o,j.o⟩
    have hd:((c.Ca off s).nx==c.bx.nx)=false:=Ln.2 h1;have H1:=H h1;by_cases h2:c.bx.bl=[]
    ·have H2:=H h2;have bI:c.bx.rep.length=0:=(fU c.bx).2 h2;have ca:decide (0<c.bx.rep.length)=false:=by rw[bI];rfl
     clear h2 bI;go_wp2_with fail;refine(jJ f.X f.R 0 (c.Ca off s) _ a.bx a9.o).mono ?_;rintro e w5⟨a2,a3,rfl,-,-,-,k⟩;replace j:=H (j.trans (.Da k));replace a:=H (a.below k);clear k l;have HQ:=H (show decide ((c.Ca off s).rep.length=0)=c.F1 off s by rw[S.o];exact N9.2 ⟨fun h=>⟨H1.o,H2.o,(fU _).1 h⟩,fun h=>(fU _).2 h.2.2⟩);have cb:(c.Ca off s).rep.length<=3:=by rw[Bx.Dw];omega
     go_wp2;go_ret;exact⟨vC (by rw[<-HQ.o];first | rfl | exact N9.2 O | (simp;done) | (rw[NS];simp;omega)),a.o,j.o⟩
    have T:=H (show c.F1 off s=false by rw[S.o];exact Lh (fun h=>h2 h.2.1));have bI:0<c.bx.rep.length:=Nat.pos_of_ne_zero (fun e=>h2 ((fU c.bx).1 e));have ca:decide (0<c.bx.rep.length)=true:=Le bI;clear h2;go_wp2;go_ret;exact⟨vC T.symm,a.o,j.o⟩
end
section
set_option maxHeartbeats 8000000
set_option maxRecDepth 100000
open Go.RowKit Go.Shelf
structure Sw (f:Fp)(w0:World)(B:Nat)(x:cP)(c:Cn)(W:World):Prop where
 cn:kn f c W
 ch:ot f w0 W
 row:aS B x W
 bl:bE W x.2.1 x.1.bl
 top:dy<=B
namespace Sw
variable {f : Fp} {c d : Cn} {w0 W W' : World} {B : Nat} {x : cP}
theorem start (h:kn f c W)(b:bE W x.2.1 x.1.bl):Sw f W W.heap.size x c (W.alloc (.cells (aX x).toArray 53)):=by
 have a:=(L5 W.heap.size W).alloc (L6 _) (.cells (aX x).toArray 53);exact⟨h.below a,.Da a,aS.new _ _,b.keep a.size (.below a),h.gl.top⟩
theorem qn (h:Sw f w0 B x c W)(a:Below W.heap.size W W'):Sw f w0 B x c W':=⟨h.cn.below a,h.ch.trans (.Da a),h.row.below a,h.bl.keep a.size (.below a),h.top⟩
theorem call (h:Sw f w0 B x c W)(b:kn f d W')(a:ot f W W'):Sw f w0 B x d W':=⟨b,h.ch.trans a,h.row.xs h.cn a,h.bl.xs h.cn a,h.top⟩
theorem drew (h:Sw f w0 B x c W):Sw f w0 B x c W.drew:=h.qn (L5 _ _).drew
theorem eq (h:Sw f w0 B x c W)(e:d=c):Sw f w0 B x d W:=e ▸ h
end Sw
theorem mf (f:Fp) (c:Cn) (now:Int) (s:Sg) (off:Int) (a:Option Addr) (cap:Nat) (w:World) (h:kn f c w) (ok:c.Ok) (hs:s.Ok) (M:bE w a s.bl) (N: -2147483648<=off/\off<=2147483647) :
  Calls Tryz.prog 89 #[f.C,now,dY s a cap,off] w fun e w'=>e= .returned (.tuple #[])/\kn f (c.store now s off) w'/\ot f w w':=by
 have P:=H ok;have J:=H hs.DX;have U:=h.lt;have V:=h.Cx;have b:=H (Sw.start (x:=(s,a,cap)) h M);obtain⟨g1,u,y,z,A,E,F,G,I,k,l,m,K⟩:=s;clear h M ok hs;unfold dY;dsimp only
 cases K with
 | nil =>
  have L:=H (show c.store now ⟨g1,u,y,z,A,E,F,G,I,k,l,m,[]⟩ off=c from L9 Z);rw[L.o]
  go_enter Tryz.func89,Tryz.ntmps89
  go_wp2_with fail
  go_end0
  exact⟨Z,b.cn,b.ch⟩
 | cons x t =>
  have L:=H (show c.store now ⟨g1,u,y,z,A,E,F,G,I,k,l,m,x::t⟩ off=if jh c.st=true then(if c.F1 off (x::t)=true then(c.insert off (x::t)).xa now else(c.insert off (x::t)).i2)else c.i2 from L7 (List.cons_ne_nil x t));rw[L.o];dsimp only at J
  cases hc:jh c.st with
  | false =>
   rw[L7 IK]
   go_enter Tryz.func89,Tryz.ntmps89
   go_wp2_with fail;change Code.wp _ _ _ _ (w.alloc (.cells (aX (⟨g1,u,y,z,A,E,F,G,I,k,l,m,x::t⟩,a,cap)).toArray 53));generalize w.alloc (.cells (aX (⟨g1,u,y,z,A,E,F,G,I,k,l,m,x::t⟩,a,cap)).toArray 53)=w1 at b|-;refine az (fun W:World=>W.cell? ⟨f.C,28,none⟩=some (c.st:Y)/\W.cell? ⟨w.heap.size,12,none⟩=some (.string ⟨(x::t).toArray⟩)) (⟨b.cn.cell 28 c.st Z,b.row.cell 12 (.string ⟨(x::t).toArray⟩) Z⟩) fun j=>?_;replace b:=H b.drew;generalize w1.drew=w2 at b j|-;refine aA 0 1 2 3 ?_;refine aY 4 fun r g=> ?_;go_simp;refine(bK c.st _).mono ?_;rintro e S⟨rfl,rfl⟩;rw[hc];go_simp;refine g.out _ _ (⟨b.cn.cell 28 c.st Z,b.row.cell 12 (.string ⟨(x::t).toArray⟩) Z⟩) ?_;clear g r j;refine fun j=>aW ?_;refine aQ 5 ?_;refine aU 6 ?_;refine aU 7 ?_;refine aU 8 ?_;refine aU 9 ?_;refine aU 10 ?_;refine aU 11 ?_;refine aU 12 ?_;refine aM 13 14 ?_;refine ay ?_ _;clear j;go_wp2_with fail;refine(cK f c _ b.cn).mono ?_;rintro e T⟨rfl,n,i⟩;replace b:=H (b.call n i);clear n i;go_wp2_with fail
   go_end0
   exact⟨Z,b.cn,b.ch⟩
  | true =>
   rw[L9 Z]
   cases hi:c.F1 off (x::t)with
   | true =>
    rw[L9 Z]
    go_enter Tryz.func89,Tryz.ntmps89
    go_wp2_with fail;change Code.wp _ _ _ _ (w.alloc (.cells (aX (⟨g1,u,y,z,A,E,F,G,I,k,l,m,x::t⟩,a,cap)).toArray 53));generalize w.alloc (.cells (aX (⟨g1,u,y,z,A,E,F,G,I,k,l,m,x::t⟩,a,cap)).toArray 53)=w1 at b|-;refine az (fun W:World=>W.cell? ⟨f.C,28,none⟩=some (c.st:Y)/\W.cell? ⟨w.heap.size,12,none⟩=some (.string ⟨(x::t).toArray⟩)) (⟨b.cn.cell 28 c.st Z,b.row.cell 12 (.string ⟨(x::t).toArray⟩) Z⟩) fun j=>?_;replace b:=H b.drew;generalize w1.drew=w2 at b j|-;refine aA 0 1 2 3 ?_;refine aY 4 fun r g=> ?_;go_simp;refine(bK c.st _).mono ?_;rintro e S⟨rfl,rfl⟩;rw[hc];go_simp;refine g.out _ _ (⟨b.cn.cell 28 c.st Z,b.row.cell 12 (.string ⟨(x::t).toArray⟩) Z⟩) ?_;clear g r j;refine fun j=>aW ?_;refine aA 5 6 7 8 ?_;refine aM 9 10 ?_;refine aQ 11 ?_;refine aY 12 fun r g=> ?_;go_simp;refine(lM f c off (x::t) _ b.cn P.o N (by have:=J.o;omega)).mono ?_;rintro e X⟨rfl,q,i⟩;rw[hi];have p:=H (b.call q i);clear q i b;go_simp;refine g.out _ _ (⟨p.cn.cell 28 c.st Z,p.row.cell 12 (.string ⟨(x::t).toArray⟩) Z⟩) ?_;clear g r j;refine fun j=>aW ?_;refine aM 13 14 ?_;refine ay ?_ _;clear j;go_wp2_with fail;refine(pD f (c.insert off (x::t)) now _ p.cn).mono ?_;rintro e T⟨rfl,n,i⟩;replace p:=H (p.call n i);clear n i;go_wp2_with fail
    go_end0
    exact⟨Z,p.cn,p.ch⟩
   | false =>
    rw[L7 IK]
    go_enter Tryz.func89,Tryz.ntmps89
    go_wp2_with fail;change Code.wp _ _ _ _ (w.alloc (.cells (aX (⟨g1,u,y,z,A,E,F,G,I,k,l,m,x::t⟩,a,cap)).toArray 53));generalize w.alloc (.cells (aX (⟨g1,u,y,z,A,E,F,G,I,k,l,m,x::t⟩,a,cap)).toArray 53)=w1 at b|-;refine az (fun W:World=>W.cell? ⟨f.C,28,none⟩=some (c.st:Y)/\W.cell? ⟨w.heap.size,12,none⟩=some (.string ⟨(x::t).toArray⟩)) (⟨b.cn.cell 28 c.st Z,b.row.cell 12 (.string ⟨(x::t).toArray⟩) Z⟩) fun j=>?_;replace b:=H b.drew;generalize w1.drew=w2 at b j|-;refine aA 0 1 2 3 ?_;refine aY 4 fun r g=> ?_;go_simp;refine(bK c.st _).mono ?_;rintro e S⟨rfl,rfl⟩;rw[hc];go_simp;refine g.out _ _ (⟨b.cn.cell 28 c.st Z,b.row.cell 12 (.string ⟨(x::t).toArray⟩) Z⟩) ?_;clear g r j;refine fun j=>aW ?_;refine aA 5 6 7 8 ?_;refine aM 9 10 ?_;refine aQ 11 ?_;refine aY 12 fun r g=> ?_;go_simp;refine(lM f c off (x::t) _ b.cn P.o N (by have:=J.o;omega)).mono ?_;rintro e X⟨rfl,q,i⟩;rw[hi];have p:=H (b.call q i);clear q i b;go_simp;refine g.out _ _ (⟨p.cn.cell 28 c.st Z,p.row.cell 12 (.string ⟨(x::t).toArray⟩) Z⟩) ?_;clear g r j;refine fun j=>aW ?_;refine aM 13 14 ?_;refine ay ?_ _;clear j;go_wp2_with fail;refine(cK f (c.insert off (x::t)) _ p.cn).mono ?_;rintro e T⟨rfl,n,i⟩;replace p:=H (p.call n i);clear n i;go_wp2_with fail
    go_end0
    exact⟨Z,p.cn,p.ch⟩
def Cn.EE (c:Cn)(s:Sg)(off:Int):Cn:=if s.fin=true/\aV c.st=true/\c.ended=false/\c.bx.nx<=off+s.s.length then { c with ended:=true,sw:=off+s.s.length }else c
theorem Cn.GE (c:Cn)(now:Int)(s:Sg)(off:Int):c.tl now s off=if(c.EE s off).reached=true/\(c.EE s off).over=false then({ c.EE s off with over:=true }.step now 6).i2 else c.EE s off:=rfl
theorem Cn.Fn (c:Cn)(s:Sg)(off:Int):(c.EE s off).tries=c.tries:=by unfold Cn.EE;split <;> rfl
theorem Cn.Ok.EE {c:Cn}(h:c.Ok){s:Sg}{off:Int}(hs:(s.s.length:Int)<=1024-8*s.bl.length)(a: -2147483648<=off/\off<=2147483647):(c.EE s off).Ok:=by
 unfold Cn.EE;split
 ·exact { h with sw:=by show _<=off+(s.s.length:Int)/\off+(s.s.length:Int)<=_;omega }
 exact h
theorem oG (f:Fp) (c:Cn) (now:Int) (s:Sg) (off:Int) (a:Option Addr) (cap:Nat) (w:World) (h:kn f c w) (ok:c.Ok) (T:aI now) (hs:s.Ok) (i:bE w a s.bl) (ho: -2147483648<=off/\off<=2147483647) (U:c.tries<=12) :
  Calls Tryz.prog 90 #[f.C,now,dY s a cap,off] w fun e w'=>e= .returned (.tuple #[])/\kn f (c.tl now s off) w'/\ot f w w':=by
 have z:=H ok;have aF:=H hs.DX;have a0:=ok.st;have hz:(⟨s.s.toArray⟩:ByteArray).size=s.s.length:=IQ
 have a1:=h.lt;have HN:=H T;have a2:=hs.DX;have HT:=H U;have b:=H (Sw.start (x:=(s,a,cap)) h i);clear h i ok hs T U;unfold dY;have A:=H (Cn.GE c now s off);obtain⟨d,n⟩:∃d,d=c.EE s off:=⟨_,Z⟩;rw[<-n]at A;have E:=H n;have b3:=H (show d.Ok/\d.tries<=12 from n ▸ ⟨z.EE aF.o ho,Cn.Fn c s off ▸ HT.o⟩);clear n
 go_enter Tryz.func90,Tryz.ntmps90
 go_upto_region 2 with fail
 change Code.wp _ _ _ _ (w.alloc (.cells (aX (s,a,cap)).toArray 53));generalize w.alloc (.cells (aX (s,a,cap)).toArray 53)=w1 at b|-
 go_cut [40]from 14 to 41 (fun F G=>F=(decide (s.fin=true/\aV c.st=true/\c.ended=false/\c.bx.nx<=off+s.s.length):Y)/\G=w1)
 case first =>
  have V:=b.row.cell 5 s.fin Z;by_cases g:s.fin=true
  ·rw[g]at V;have I:=H g;clear g;have eC:=b.cn.cell 28 c.st Z;by_cases q:aV c.st=true
   ·have j:jh c.st=true:=q;have J:=H q;clear q;have p:=b.cn.cell 15 c.ended Z;by_cases he:c.ended=false
    ·rw[he]at p;have K:=H (show c.ended=false from he);clear he;have a3:=b.cn.cell 11 f.X Z;have a4:=z.Hc;have ci:=LE z.bx.E1 z.bx.Cv;by_cases l:c.bx.nx<=off+s.s.length
     ·have n:decide (c.bx.nx<=off+s.s.length)=true:=Le l;clear l;go_wp2_with fail;refine(bK c.st _).mono ?_;rintro e r⟨rfl,rfl⟩;rw[j];go_wp2_with fail;refine(co f.X f.R 0 c.bx _ b.cn.bx).mono ?_;rintro e w4⟨rfl,rfl⟩;have L:=H (Lj.1 n);go_wp2_with fail
      go_meet
      case rel=>exact⟨congrArg Value.bool (Le ⟨I.o,J.o,K.o,L.o⟩).symm,Z⟩
     have n:decide (c.bx.nx<=off+s.s.length)=false:=Lh l;clear l;go_wp2_with fail;refine(bK c.st _).mono ?_;rintro e r⟨rfl,rfl⟩;rw[j];go_wp2_with fail;refine(co f.X f.R 0 c.bx _ b.cn.bx).mono ?_;rintro e w4⟨rfl,rfl⟩;have L:=H (Lu.1 n);go_wp2_with fail
     go_meet
     case rel=>exact⟨congrArg Value.bool (Lh (fun h=>absurd h.2.2.2 (NL.2 L.o))).symm,Z⟩
    have cS:c.ended=true:=by simpa using he
    rw[cS]at p;have K:=H he;clear he cS;go_wp2_with fail;refine(bK c.st _).mono ?_;rintro e r⟨rfl,rfl⟩;rw[j];go_wp2_with fail
    go_meet
    case rel=>exact⟨congrArg Value.bool (Lh (fun h=>K.o h.2.2.1)).symm,Z⟩
   have j:jh c.st=false:=by simpa[aV,jh]using q
   have J:=H q;clear q;go_wp2_with fail;refine(bK c.st _).mono ?_;rintro e r⟨rfl,rfl⟩;rw[j];go_wp2_with fail
   go_meet
   case rel=>exact⟨congrArg Value.bool (Lh (fun h=>J.o h.2.1)).symm,Z⟩
  have aa:s.fin=false:=Jl
  rw[aa]at V;have I:=H g;clear g aa;go_wp2_with fail
  go_meet
  case rel=>exact⟨congrArg Value.bool (Lh (fun h=>I.o h.1)).symm,Z⟩
 case rest =>
  obtain⟨rfl,rfl⟩:=hcut
  go_upto_if 40 with fail
  go_cut []from 40 to 50 (fun G=>Sw f w w.heap.size (s,a,cap) d G)
  case first =>
   by_cases t:s.fin=true/\aV c.st=true/\c.ended=false/\c.bx.nx<=off+s.s.length
   ·rw[Le t];have M:=H (show d={ c with ended:=true,sw:=off+s.s.length } by rw[E.o];exact L9 t);have a5:=b.cn.free 15;have a6:=b.cn.free 16;have p:=b.cn.cell 15 c.ended Z;have a7:=b.cn.cell 16 c.sw Z;clear t;go_wp2_with fail
    go_meet
    case rel=>exact(b.call ((b.cn.set 15 _ { c with ended:=true } Z Z Z Z Z).set 16 _ { c with ended:=true,sw:=off+s.s.length } Z Z Z Z Z) (.DO (((nF.refl _ _).setCell 15 _).setCell 16 _))).eq M.o
   rw[Lh t];have M:=H (show d=c by rw[E.o];exact L7 t);clear t;go_wp2_with fail
   go_meet
   case rel=>exact b.eq M.o
  case rest =>
   replace b:=H hcut;clear hcut E
   cases hr:d.reached with
   | false =>
    go_wp2_with fail;refine(cQ f d _ b.cn).mono ?_;rintro e r⟨rfl,i⟩;replace b:=H (b.qn i);rw[hr];clear i;go_wp2_with fail
    go_end0
    exact⟨Z,by rw[A.o,L7 (by rw[hr];rintro⟨h,-⟩;cases h)];exact b.cn,b.ch⟩
   | true =>
    cases hv:d.over with
    | true =>
     go_wp2_with fail;refine(cQ f d _ b.cn).mono ?_;rintro e r⟨rfl,i⟩;replace b:=H (b.qn i);rw[hr];clear i;have m:=b.cn.cell 17 (.bool d.over) Z;rw[hv]at m;go_wp2_with fail
     go_end0
     exact⟨Z,by rw[A.o,L7 (by rw[hv];rintro⟨-,h⟩;cases h)];exact b.cn,b.ch⟩
    | false =>
     go_wp2_with fail;refine(cQ f d _ b.cn).mono ?_;rintro e r⟨rfl,i⟩;replace b:=H (b.qn i);rw[hr];clear i;have m:=b.cn.cell 17 (.bool d.over) Z;have N:=b.cn.free 17;rw[hv]at m;have P:=H (b.call (b.cn.set 17 true { d with over:=true } Z Z Z Z Z) (.DO ((nF.refl _ _).setCell 17 _)));have S:=H b3.1.st;clear b;go_wp2_with fail;refine(cR f { d with over:=true } now 6 _ P.cn S.o D).mono ?_;rintro e w5⟨rfl,u,k⟩;replace b:=H (P.call u k);clear u k m N P;go_wp2_with fail;refine(cK f _ _ b.cn).mono ?_;rintro e w6⟨rfl,y,k⟩;replace b:=H (b.call y k);clear y k;go_wp2_with fail
     go_end0
     exact⟨Z,by rw[A.o,L9 ⟨hr,hv⟩];exact b.cn,b.ch⟩
end
section
set_option maxHeartbeats 8000000
set_option maxRecDepth 100000
open Go.RowKit Go.Shelf
theorem qv {e n:Int}{L:List Sp}(h:aJ e L=true)(a:∀i,ap i L->i<n):2*(L.length:Int)<=max 0 (n-e):=by
 induction L generalizing e with
 | nil=>simp;omega
 | cons x l b =>
  obtain⟨⟨h0,h1,h2,-⟩,g⟩:=aB.1 h;have j:=b g (fun i hi=>a i (mem_cons.2 (.inr hi)));have k:=a (x.2-1) (mem_cons.2 (.inl ⟨O,O⟩));rw[LC];omega
theorem Cn.Ok.GP {c:Cn}(h:c.Ok):(c.sc.sk.length:Int)<=549755813889:=by
 have:=qv (n:=c.next) h.sc.Eg (fun i hi=>(h.sc.Gg i hi).2);have:=h.gi;omega
def CH (a:Int)(b:Sp):Sp:=(aE b.1 a,aE b.2 a)
def jU (ke:Bool)(next:Int)(x:Sp):Bool:=ke&&decide (1<=x.1/\x.1<x.2/\x.2<=next)
theorem vT (ke:Bool)(next a:Int)(bl:List Sp)(k:Nat)(b:k<bl.length) :
  dU ke next a (bl.take (k+1))=if jU ke next (CH a bl[k])=true then dU ke next a (bl.take k)++[CH a bl[k]]else dU ke next a (bl.take k):=by
 unfold dU;rw[Lz b,LQ,Mt];show _++List.filter _ [CH a bl[k]]=_;rw[List.filter_cons];show _++(if jU ke next (CH a bl[k])=true then _ else _)=_;split
 ·rfl
 rw[List.filter_nil,LP]
theorem qx (ke:Bool)(next a:Int)(bl:List Sp):(dU ke next a bl).length<=bl.length:=by
 unfold dU;refine La (M8 _ _) ?_;rw[LM];exact L6 _
theorem vU (ack:Int)(L:List Sp)(k:Nat)(a:k<L.length):jE ack (L.take (k+1))=jE ack (L.take k)+max 0 (min L[k].2 ack-L[k].1):=by
 rw[Lz a];generalize L.take k=T
 induction T with
 | nil=>simp[jE]
 | cons y T b=>simp only[LT,jE,b];omega
theorem pQ {ack e:Int}{L:List Sp}(h:aJ e L=true):∀k,0<=jE ack (L.take k)/\jE ack (L.take k)<=max 0 (1099511627776-e):=by
 induction L generalizing e with
 | nil=>intro k;simp[jE];omega
 | cons x l a =>
  obtain⟨⟨h0,h1,h2,g⟩,b⟩:=aB.1 h;intro k
  cases k with
  | zero=>simp[jE];omega
  | succ k =>
   have:=a b k;rw[Nc];simp only[jE];omega
theorem qy {w:World}{base n cap:Nat}{a:Option Addr}{L:List Sp}(h:aH w base (.slice a n cap) L)(hs:L.length<=1099511627776):sT w w.heap.size a L:=by
 obtain⟨i,b,e,g,-⟩:=h.at hs
 cases e
 exact g
theorem sM {e:Int}{L:List Sp}(h:aJ e L=true){x:Sp}(a:x∈L):0<=x.1/\x.1<x.2/\x.2<=1099511627776:=by
 induction L generalizing e with
 | nil=>cases a
 | cons y l b =>
  obtain⟨⟨h0,_,h2,g⟩,i⟩:=aB.1 h
  rcases Mm.1 a with rfl | a
  ·exact⟨h0,h2,g⟩
  exact b i a
theorem tb {s:Sc}(h:s.Ok){ack:Int}{R:List Sp}(ha: -2147483648<=ack/\ack<=2147483647): -3298534883328<=s.Db ack R/\s.Db ack R<=3298534883328:=by
 unfold Sc.Db;split
 ·rename_i a;have h1:=aN h.Eg;have h2:=(h.i1 ack R).Eg;unfold Sc.i1 at h2;rw[L9 a]at h2;have b:=aN h2;have:=h.u0;have:=h.un;have:=h.n40;omega
 omega
theorem qz (f:Fp) (c:Cn) (ack:Int) (bl:List Sp) (a:Option Addr) (cap:Nat) (w:World) (h:kn f c w) (ok:c.Ok) (l:bE w a bl) (hl:bl.length<=3) (ha: -2147483648<=ack/\ack<=2147483647) :
  Calls Tryz.prog 130 #[f.C,c.cf.ki,ack,.slice a bl.length cap] w fun e w'=>e= .returned (c.Dx ack bl)/\kn f (c.report ack bl) w'/\ot f w w':=by
 have HO:=H ok;have c9:=h.gl.top;have HC:=H h;have HX:=H (ot.refl f w);have HB:=H l;clear h l ok
 go_enter Tryz.func130,Tryz.ntmps130
 go_wp2_with fail
 go_loopg [9,20] bl.length (fun g v9 kv wr=>∃k:Nat,kv=((k:Int):Y)/\g+k=bl.length/\Below w.heap.size w wr/\aH wr w.heap.size v9 (dU c.ke c.next c.cf.ki (bl.take k)))
 case atStart=>exact⟨0,Z,Z,L5 _ _,aH.nil _ _⟩
 case round =>
  obtain⟨k,rfl,hg,l,ho⟩:=hrel;have E:=H l;have s:=H ho;clear l ho;by_cases hk:k<bl.length
  ·obtain⟨b,bb,rfl,b1,V⟩:=(HB.keep E.size (.below E.o)).1.cells O;obtain⟨d0,d1⟩:=V k hk;clear V;have cl:(k:Int)<(bl.length:Int):=by omega
   have L:=H (vT c.ke c.next c.cf.ki bl k hk);have cT:=H (show(dU c.ke c.next c.cf.ki (bl.take k)).length<=3 from La (qx _ _ _ _) IX);generalize bl[k]=x at d0 d1 L;generalize dU c.ke c.next c.cf.ki (bl.take k)=TL at s L cT;obtain⟨z,A⟩:=x;dsimp only at d0 d1;go_wp2_with fail
   go_upto_region 5 with fail
   have a4:=(((L5 wr.heap.size wr).alloc (L6 _) (.cells #[z,A] 149)).alloc IK (.cells #[(aE z c.cf.ki),(aE A c.cf.ki)] 149)).drew;have n:=H (E.trans (a4.mono E.size));have y:=H (s.qn a4);clear a4;have e0:=(At.new (B:=wr.heap.size+1) (W:=wr.alloc (.cells #[z,A] 149)) (i:=0) (v:=.int .i64 (aE z c.cf.ki)) (vs:= #[(aE z c.cf.ki),(aE A c.cf.ki)]) 149 IK Z).1;have e1:=(At.new (B:=wr.heap.size+1) (W:=wr.alloc (.cells #[z,A] 149)) (i:=1) (v:=.int .i64 (aE A c.cf.ki)) (vs:= #[(aE z c.cf.ki),(aE A c.cf.ki)]) 149 IK Z).1;have t:=H e1;have u:=H e0;clear e0 e1;have a7:wr.heap.size+1<(((wr.alloc (.cells #[z,A] 149)).alloc (.cells #[(aE z c.cf.ki),(aE A c.cf.ki)] 149)).drew).heap.size:=IK
   have r:=H a7;clear a7
   go_cut [12]from 24 to 33 (fun b7 wx=>b7= .pointer (some ⟨wr.heap.size+1,0,none⟩)/\wx=((wr.alloc (.cells #[z,A] 149)).alloc (.cells #[(aE z c.cf.ki),(aE A c.cf.ki)] 149)).drew)
   case first =>
    go_region_with (first | (go_at_call 79;refine(de _ _ _).mono ?_;rintro e w5⟨rfl,rfl⟩))
    all_goals
     go_wp2_with fail
     go_meet
     exact⟨Z,Z⟩
   case rest =>
    obtain⟨rfl,rfl⟩:=hcut;replace u:=H (show(((wr.alloc (.cells #[z,A] 149)).alloc (.cells #[(aE z c.cf.ki),(aE A c.cf.ki)] 149)).drew).cell? ⟨wr.heap.size+1,0,none⟩=some (aE z c.cf.ki:Y)from u.o);replace t:=H (show(((wr.alloc (.cells #[z,A] 149)).alloc (.cells #[(aE z c.cf.ki),(aE A c.cf.ki)] 149)).drew).cell? ⟨wr.heap.size+1,1,none⟩=some (aE A c.cf.ki:Y)from t.o);have a9:w.heap.size<=wr.heap.size:=E.size;generalize ((wr.alloc (.cells #[z,A] 149)).alloc (.cells #[(aE z c.cf.ki),(aE A c.cf.ki)] 149)).drew=I at n y u t r|-;generalize wr.heap.size=N1 at a9 r u t|-;clear E s d0 d1 b1;have b2:=bP z c.cf.ki;have b3:=bP A c.cf.ki;replace L:=H (show dU c.ke c.next c.cf.ki (bl.take (k+1))=if jU c.ke c.next (aE z c.cf.ki,aE A c.cf.ki)=true then TL++[(aE z c.cf.ki,aE A c.cf.ki)]else TL from L.o);generalize aE z c.cf.ki=J at u t L b2;generalize aE A c.cf.ki=K at t L b3;have b0:=HO.gi;obtain⟨ak,al,am⟩:=b0
    go_upto_region 6 with fail
    go_cut [55]from 33 to 56 (fun b8 wx=>b8=(jU c.ke c.next (J,K):Y)/\Below w.heap.size w wx/\aH wx w.heap.size u9 TL/\wx.cell? ⟨N1+1,0,none⟩=some (J:Y)/\wx.cell? ⟨N1+1,1,none⟩=some (K:Y)/\N1+1<wx.heap.size)
    case first =>
     by_cases hs:c.ke=true
     ·by_cases h1:1<=J
      focus
       by_cases h2:J<K
       ·by_cases h3:K<=c.next
        ·have HQ:=H (show true=jU c.ke c.next (J,K) by unfold jU;rw[hs,NE];exact(Le ⟨h1,h2,h3⟩).symm);refine az (fun W:World=>W.cell? ⟨f.C,8,none⟩=some (c.ke:Y)/\W.cell? ⟨N1+1,0,none⟩=some (J:Y)/\W.cell? ⟨N1+1,1,none⟩=some (K:Y)) (⟨(HC.below n.o).cell 8 c.ke Z,u.o,t.o⟩) fun G=>?_;have l:=(L5 I.heap.size I).drew;replace u:=H ((l.cell (p:=⟨N1+1,0,none⟩) r.o).trans u.o);replace t:=H ((l.cell (p:=⟨N1+1,1,none⟩) r.o).trans t.o);replace r:=H (Ld r.o l.size);replace n:=H (n.trans (l.mono n.size));replace y:=H (y.qn l);clear l;generalize I.drew=w2 at u t r n y G|-;refine aM 0 1 ?_;refine aQ 2 ?_;refine aQ 3 (v:=.bool true) ?_ (hy:=Pp);refine aM 4 5 ?_;refine aQ 6 ?_;refine aQ 7 (v:=.bool true) ?_ (hy:=Pa);refine aA 8 9 10 11 ?_;refine aM 12 13 ?_;refine aQ 14 (v:=.bool true) ?_ (hy:=Pa);refine aA 15 16 17 18 ?_;refine aQ 19 ?_;refine aY 20 fun Kq X=> ?_;go_simp;refine(aZ f c _ (HC.below n.o)).mono ?_;rintro e w7⟨rfl,l⟩;replace u:=H ((l.cell (p:=⟨N1+1,0,none⟩) r.o).trans u.o);replace t:=H ((l.cell (p:=⟨N1+1,1,none⟩) r.o).trans t.o);replace r:=H (Ld r.o l.size);replace n:=H (n.trans (l.mono n.size));replace y:=H (y.qn l);clear l;go_simp;refine X.out _ _ (⟨(HC.below n.o).cell 8 c.ke Z,u.o,t.o⟩) ?_;clear X Kq G;refine fun G=>aW ?_;refine aQ 21 (v:=.bool true) ?_ (hy:=Pa);refine aQ 22 ?_;refine ay ?_ _;clear G;go_wp2_with fail
         go_meet
         case rel=>exact⟨congrArg Value.bool (HQ.o),n.o,y.o,u.o,t.o,r.o⟩
        have HQ:=H (show false=jU c.ke c.next (J,K) by unfold jU;rw[hs,NE];exact(Lh (fun h=>h3 h.2.2)).symm);refine az (fun W:World=>W.cell? ⟨f.C,8,none⟩=some (c.ke:Y)/\W.cell? ⟨N1+1,0,none⟩=some (J:Y)/\W.cell? ⟨N1+1,1,none⟩=some (K:Y)) (⟨(HC.below n.o).cell 8 c.ke Z,u.o,t.o⟩) fun G=>?_;have l:=(L5 I.heap.size I).drew;replace u:=H ((l.cell (p:=⟨N1+1,0,none⟩) r.o).trans u.o);replace t:=H ((l.cell (p:=⟨N1+1,1,none⟩) r.o).trans t.o);replace r:=H (Ld r.o l.size);replace n:=H (n.trans (l.mono n.size));replace y:=H (y.qn l);clear l;generalize I.drew=w2 at u t r n y G|-;refine aM 0 1 ?_;refine aQ 2 ?_;refine aQ 3 (v:=.bool true) ?_ (hy:=Pp);refine aM 4 5 ?_;refine aQ 6 ?_;refine aQ 7 (v:=.bool true) ?_ (hy:=Pa);refine aA 8 9 10 11 ?_;refine aM 12 13 ?_;refine aQ 14 (v:=.bool true) ?_ (hy:=Pa);refine aA 15 16 17 18 ?_;refine aQ 19 ?_;refine aY 20 fun Kq X=> ?_;go_simp;refine(aZ f c _ (HC.below n.o)).mono ?_;rintro e w7⟨rfl,l⟩;replace u:=H ((l.cell (p:=⟨N1+1,0,none⟩) r.o).trans u.o);replace t:=H ((l.cell (p:=⟨N1+1,1,none⟩) r.o).trans t.o);replace r:=H (Ld r.o l.size);replace n:=H (n.trans (l.mono n.size));replace y:=H (y.qn l);clear l;go_simp;refine X.out _ _ (⟨(HC.below n.o).cell 8 c.ke Z,u.o,t.o⟩) ?_;clear X Kq G;refine fun G=>aW ?_;refine aQ 21 (v:=.bool false) ?_ (hy:=PC);refine aQ 22 ?_;refine ay ?_ _;clear G;go_wp2_with fail
        go_meet
        case rel=>exact⟨congrArg Value.bool (HQ.o),n.o,y.o,u.o,t.o,r.o⟩
       have HQ:=H (show false=jU c.ke c.next (J,K) by unfold jU;rw[hs,NE];exact(Lh (fun h=>h2 h.2.1)).symm);refine az (fun W:World=>W.cell? ⟨f.C,8,none⟩=some (c.ke:Y)/\W.cell? ⟨N1+1,0,none⟩=some (J:Y)/\W.cell? ⟨N1+1,1,none⟩=some (K:Y)) (⟨(HC.below n.o).cell 8 c.ke Z,u.o,t.o⟩) fun G=>?_;have l:=(L5 I.heap.size I).drew;replace u:=H ((l.cell (p:=⟨N1+1,0,none⟩) r.o).trans u.o);replace t:=H ((l.cell (p:=⟨N1+1,1,none⟩) r.o).trans t.o);replace r:=H (Ld r.o l.size);replace n:=H (n.trans (l.mono n.size));replace y:=H (y.qn l);clear l;generalize I.drew=w2 at u t r n y G|-;refine aM 0 1 ?_;refine aQ 2 ?_;refine aQ 3 (v:=.bool true) ?_ (hy:=Pp);refine aM 4 5 ?_;refine aQ 6 ?_;refine aQ 7 (v:=.bool true) ?_ (hy:=Pa);refine aA 8 9 10 11 ?_;refine aM 12 13 ?_;refine aQ 14 (v:=.bool false) ?_ (hy:=PC)
      rotate_left 1
      focus
       have HQ:=H (show false=jU c.ke c.next (J,K) by unfold jU;rw[hs,NE];exact(Lh (fun h=>h1 h.1)).symm);refine az (fun W:World=>W.cell? ⟨f.C,8,none⟩=some (c.ke:Y)/\W.cell? ⟨N1+1,0,none⟩=some (J:Y)/\W.cell? ⟨N1+1,1,none⟩=some (K:Y)) (⟨(HC.below n.o).cell 8 c.ke Z,u.o,t.o⟩) fun G=>?_;have l:=(L5 I.heap.size I).drew;replace u:=H ((l.cell (p:=⟨N1+1,0,none⟩) r.o).trans u.o);replace t:=H ((l.cell (p:=⟨N1+1,1,none⟩) r.o).trans t.o);replace r:=H (Ld r.o l.size);replace n:=H (n.trans (l.mono n.size));replace y:=H (y.qn l);clear l;generalize I.drew=w2 at u t r n y G|-;refine aM 0 1 ?_;refine aQ 2 ?_;refine aQ 3 (v:=.bool true) ?_ (hy:=Pp);refine aM 4 5 ?_;refine aQ 6 ?_;refine aQ 7 (v:=.bool false) ?_ (hy:=PC);refine aM 8 9 ?_;refine aU 10 ?_;refine aU 11 ?_;refine aU 12 ?_;refine aU 13 ?_;refine aU 14 ?_
      all_goals
       refine aM 15 16 ?_;refine aU 17 ?_;refine aU 18 ?_;refine aU 19 ?_;refine aU 20 ?_;refine aU 21 ?_;refine aQ 22 ?_;refine ay ?_ _;clear G;go_wp2_with fail
       go_meet
       case rel=>exact⟨congrArg Value.bool (HQ.o),n.o,y.o,u.o,t.o,r.o⟩
     have b4:c.ke=false:=by simpa using hs
     have HQ:=H (show false=jU c.ke c.next (J,K) by unfold jU;rw[b4];rfl);refine az (fun W:World=>W.cell? ⟨f.C,8,none⟩=some (c.ke:Y)/\W.cell? ⟨N1+1,0,none⟩=some (J:Y)/\W.cell? ⟨N1+1,1,none⟩=some (K:Y)) (⟨(HC.below n.o).cell 8 c.ke Z,u.o,t.o⟩) fun G=>?_;have l:=(L5 I.heap.size I).drew;replace u:=H ((l.cell (p:=⟨N1+1,0,none⟩) r.o).trans u.o);replace t:=H ((l.cell (p:=⟨N1+1,1,none⟩) r.o).trans t.o);replace r:=H (Ld r.o l.size);replace n:=H (n.trans (l.mono n.size));replace y:=H (y.qn l);clear l;generalize I.drew=w2 at u t r n y G|-;refine aM 0 1 ?_;refine aQ 2 ?_;refine aQ 3 (v:=.bool false) ?_ (hy:=by intro w m;(obtain⟨F,M,P⟩:=m);rw[b4]at F;go_simp);refine aQ 4 ?_;refine aU 5 ?_;refine aU 6 ?_;refine aU 7 ?_;refine aM 8 9 ?_;refine aU 10 ?_;refine aU 11 ?_;refine aU 12 ?_;refine aU 13 ?_;refine aU 14 ?_;refine aM 15 16 ?_;refine aU 17 ?_;refine aU 18 ?_;refine aU 19 ?_;refine aU 20 ?_;refine aU 21 ?_;refine aQ 22 ?_;refine ay ?_ _;clear G;go_wp2_with fail
     go_meet
     case rel=>exact⟨congrArg Value.bool (HQ.o),n.o,y.o,u.o,t.o,r.o⟩
    case rest =>
     obtain⟨rfl,l,ho,e0,e1,a7⟩:=hcut;have E:=H l;have s:=H ho;have eL:=l.size;clear l ho n y u t r b2 b3;generalize jU c.ke c.next (J,K)=q at L
     cases q with
     | false =>
      go_wp2_with fail
      go_roundg (gk-1)
      case measure=>omega
      case rel=>exact⟨k+1,IP,O,E.o,by rw[L.o];exact s.o⟩
     | true =>
      have bd:=H (show TL.length<=4398046511104 from La cT.o D)
      go_wp2_with (first | (at_builtin;refine bD _ Z _ _ Z w.heap.size _ _ Z (s.alloc _) bd.o _ (J,K) Z IK IK IM ?_;intro v4 w4 b5 b6 b9))
      have cV:=aR (N:=w.heap.size) b6 IM (fun j e=>(s.lt j e).1);have cs:=H ((E.trans (((L5 _ _).alloc (L6 _) _).mono E.size)).trans cV);clear cV b9 b6 e0 e1;have be:=H b5;clear b5;go_wp2_with fail
      go_roundg (gk-1)
      case measure=>omega
      case rel=>exact⟨k+1,IP,O,cs.o,by rw[L.o];exact be.o⟩
  obtain rfl:k=bl.length:=O
  rw[LV]at s;obtain⟨R,hR⟩:∃R,R=dU c.ke c.next c.cf.ki bl:=⟨_,Z⟩;rw[<-hR]at s;have cX:=H (show R.length<=3 from hR ▸ La (qx _ _ _ _) hl);have HR:=H hR;clear hR hk;obtain⟨ra,rc,rfl,c1⟩:=s.val;clear c1;have U:=H (HC.below E.o);have b0:=HO.gi;obtain⟨ak,al,am⟩:=b0;obtain⟨c2,c5⟩:=ha;go_wp2_with fail;refine(df f c _ U.o).mono ?_;rintro e I⟨rfl,l⟩;replace U:=H (U.below l);replace E:=H (E.trans (l.mono E.size));replace s:=H (s.qn l);clear l;have c0:=U.cell 0 f.S Z;go_wp2_with fail;refine(oo f.S (f.S+1) c.sc _ U.sc).mono ?_;rintro e w2⟨v,rfl,ho,l⟩;have cw:=HO.GP;obtain⟨sa,sc,rfl,c6⟩:=ho.val;clear c6;have cY:=H (show sT w2 w2.heap.size sa c.sc.sk from qy ho O);replace U:=H (U.below l);replace E:=H (E.trans (l.mono E.size));replace s:=H (s.qn l);clear l ho c0;have bk:=H HO.sc.Eg;go_wp2_with fail
  go_loopg [13,71] c.sc.sk.length (fun g c7 kv wr=>∃k:Nat,kv=((k:Int):Y)/\g+k=c.sc.sk.length/\c7=((ack-c.gi-jE ack (c.sc.sk.take k):Int):Y)/\Below w2.heap.size w2 wr)
  case atStart=>exact⟨0,Z,Z,by rw[Nv];unfold jE;rw[Int.sub_zero],L5 _ _⟩
  case round =>
   obtain⟨k,rfl,hg,rfl,l⟩:=hrel;have av:=H l;clear l;have c3:=pQ (ack:=ack) bk.o k;by_cases hk:k<c.sc.sk.length
   ·obtain⟨b,bb,rfl,b1,V⟩:=(cY.below av.o).cells O;obtain⟨d0,d1⟩:=V k hk;clear V;have cl:(k:Int)<(c.sc.sk.length:Int):=by omega
    have L:=H (vU ack c.sc.sk k hk);have ab:=pQ (ack:=ack) bk.o (k+1);have c4:=sM bk.o (LS hk);generalize jE ack (c.sc.sk.take k)=T at L c3;rw[L.o]at ab;generalize c.sc.sk[k]=x at d0 d1 L ab c4;obtain⟨z,A⟩:=x;dsimp only at d0 d1 ab c4;go_wp2_with fail
    go_roundg (gk-1)
    case measure=>omega
    case rel=>exact⟨k+1,IP,O,by rw[L.o];go_num,av.trans (((L5 _ _).alloc (L6 _) _).mono av.size)⟩
   obtain rfl:k=c.sc.sk.length:=O
   rw[LV]at c3|-;have l:=av.o;replace U:=H (U.below l);replace E:=H (E.trans (l.mono E.size));replace s:=H (s.qn l);clear l av cY;have c0:=U.cell 0 f.S Z;go_wp2_with fail;refine(lH f.S (f.S+1) c.sc ack ra rc R _ HO.sc U.sc ⟨qy s.o (by have:=cX.o;omega),fun hp ad e=>(s.ty ad e).ne U.Dh D⟩ (by rw[Lc];have:=cX.o;omega)).mono ?_;rintro e w4⟨rfl,hs,hc⟩;have c8:=tb HO.sc (R:=R) ⟨c2,c5⟩;have HE:=H (show c.Dx ack bl=c.sc.Db ack R-(ack-c.gi-jE ack c.sc.sk) by unfold Cn.Dx;rw[HR.o]);generalize c.sc.Db ack R=an at c8 HE|-;have dT:=H (U.G3 hs hc);have d4:=H ((ot.Da E.o).trans (.F6 hc));clear hs hc;go_wp2;go_ret;exact⟨by rw[HE.o];rfl,by have:=dT.o;rw[HR.o]at this;exact this,d4.o⟩
end
section
set_option maxHeartbeats 8000000
set_option maxRecDepth 100000
open Go.RowKit Go.Shelf
theorem Sw.pre {f:Fp}{c:Cn}{w0 W V:World}{B:Nat}{x:cP}(h:Sw f W B x c V)(a:ot f w0 W):Sw f w0 B x c V:=⟨h.cn,a.trans h.ch,h.row,h.bl,h.top⟩
def Cn.Cp (r:Cn)(gi ack:Int):Cn:=if 0<ack-max gi 1 then { r with cg:=r.cg.i1 (ack-max gi 1) ack }else r
def Cn.EL (r:Cn)(now gi ack:Int):Cn:=if gi<ack then(Cn.Cp { r with dl:=eE,tm:=r.tm.i1 now ack } gi ack).drop ack else r
def Cn.EM (b:Cn)(ack a flight:Int):Cn:=if 0<a/\b.mark<=ack/\b.sc.lost b.go≠[]then { b with cg:=b.cg.lost flight b.next }else b
def Cn.G6 (c:Cn)(now:Int)(s:Sg)(ack:Int):Cn:=(((c.report ack s.bl).EL now c.gi ack).announce ack s.win).EM ack (c.Dx ack s.bl) c.flight
def Cn.G7 (c:Cn)(now:Int)(s:Sg)(ack:Int):Cn:=if ack<c.gi then c else if c.gi<=c.last/\c.last<ack then(c.G6 now s ack).step now 7 else c.G6 now s ack
theorem Cn.GF (c:Cn)(now:Int)(s:Sg)(ack:Int):c.i1 now s ack=Cn.G7 { c with tries:=0 } now s ack:=rfl
namespace Cn.Ok
variable {c : Cn}
theorem Cp (h:c.Ok)(gi ack:Int):(c.Cp gi ack).Ok:=by
 unfold Cn.Cp;split
 ·exact h.Gp (Cg.E6 h.cg _ _)
 exact h
theorem EL (h:c.Ok)(now gi ack:Int):(c.EL now gi ack).Ok:=by
 unfold Cn.EL;split
 ·exact(((h.EJ dx).DY (Tm.Ce h.tm now ack)).Cp _ _).drop _
 exact h
theorem EM (h:c.Ok)(ack a flight:Int):(c.EM ack a flight).Ok:=by
 unfold Cn.EM;split
 ·exact h.Gp (Cg.Fw h.cg _ h.GK)
 exact h
end Cn.Ok
theorem AM {c:Cn}(h:c.Ok){ack:Int}{bl:List Sp}(ha: -2147483648<=ack/\ack<=2147483647): -8796093022208<=c.Dx ack bl/\c.Dx ack bl<=8796093022208:=by
 unfold Cn.Dx;have h1:=tb h.sc (R:=dU c.ke c.next c.cf.ki bl) ha;have h2:=pQ (ack:=ack) h.sc.Eg c.sc.sk.length;rw[LV]at h2;have:=h.gi;omega
theorem iC (f:Fp) (y:Cn) (now:Int) (s:Sg) (ack:Int) (a:Option Addr) (cap:Nat) (w:World) (h:kn f y w) (ok:y.Ok) (hn:aI now) (hs:s.Ok) (n:bE w a s.bl) (ha: -2147483648<=ack/\ack<=2147483647) :
  Calls Tryz.prog 85 #[f.C,now,dY s a cap,ack] w fun e w'=>e= .returned (.tuple #[])/\kn f (y.i1 now s ack) w'/\ot f w w':=by
 have HN:=H hn;have d5:=H hs.win;have d6:=H hs.F0;have a3:=h.lt;have d7:=h.cell 33 y.tries Z;have d8:=h.free 33;have hA:=h.set 33 (0:Int) { y with tries:=0 } Z Z Z Z Z;have hX:ot f w (w.setCell ⟨f.C,33,none⟩ (0:Int)):=.DO ((nF.refl _ _).setCell 33 _);have hS:=(Sw.start (x:=(s,a,cap)) hA (n.xs h hX)).pre hX;rw[My]at hS;have q:=H ok.DM;have z:=H (Cn.GF y now s ack);obtain⟨c,V⟩:∃c:Cn,c={ y with tries:=0 }:=⟨_,Z⟩;rw[<-V]at hS q z;have g:=H hS;clear hS hA hX V h n ok hs hn;unfold dY;obtain⟨X,a0⟩:=ha
 go_enter Tryz.func85,Tryz.ntmps85
 go_wp2_with fail;change Calls _ _ _ ((w.setCell ⟨f.C,33,none⟩ (0:Int)).alloc (.cells (aX (s,a,cap)).toArray 53)) _;generalize ((w.setCell ⟨f.C,33,none⟩ (0:Int)).alloc (.cells (aX (s,a,cap)).toArray 53))=w1 at g|-;clear d7 d8 a3;refine(df f c _ g.cn).mono ?_;rintro e w2⟨rfl,n⟩;replace g:=H (g.qn n);clear n;have a4:=q.gi;obtain⟨ak,al,am⟩:=a4;by_cases h1:ack<c.gi
 ·have hd:decide (ack<c.gi)=true:=Le h1;have H1:=H h1;clear h1;go_wp2_with fail;exact Lo (LY Z _ _ _) Z ⟨Z,by rw[z.o];unfold Cn.G7;rw[L9 H1.o];exact g.cn,g.ch⟩
 have hd:decide (ack<c.gi)=false:=Lh h1;have H1:=H h1;clear h1;replace z:=H (show y.i1 now s ack=if c.gi<=c.last/\c.last<ack then(c.G6 now s ack).step now 7 else c.G6 now s ack by rw[z.o];exact L7 H1.o);go_wp2_with fail;refine(dS f c _ g.cn q.sc).mono ?_;rintro e w3⟨rfl,n⟩;replace g:=H (g.qn n);clear n;clear hd;have b7:=q.flight;have d9:=H (show -1099511627776<=c.base/\c.base<=1099511627776 by have:=q.b0;have:=q.Ew;omega);have da:=H (show c.held.length<=1099511627776 by have:=q.hlen;omega);go_wp2_with fail;refine(ej f c _ g.cn d9.o da.o).mono ?_;rintro e w4⟨rfl,rfl⟩;replace g:=H g.drew;generalize w3.drew=w4 at g|-;have a5:0<=c.last/\c.last<=1073741824:=by have:=q.b0;have:=q.b1;unfold Cn.last at this|-;omega
 go_wp2_with fail;refine az (fun W:World=>W.cell? ⟨f.C,24,none⟩=some (c.cf.ki:Y)/\W.cell? ⟨w.heap.size,11,none⟩=some (.slice a s.bl.length cap)) (⟨g.cn.cell 24 c.cf.ki Z,g.row.cell 11 (.slice a s.bl.length cap) Z⟩) fun k=>?_;replace g:=H g.drew;generalize w4.drew=Il at g k|-;refine aA 0 1 2 3 ?_;refine aA 4 5 6 7 ?_;refine aM 8 9 ?_;refine aQ 10 ?_;refine aY 11 fun t i=> ?_;go_simp;refine(qz f c ack s.bl a cap _ g.cn q.o g.bl d6.o ⟨X,a0⟩).mono ?_;rintro e w5⟨rfl,l,m⟩;have p:=H (g.call l m);clear l m;go_simp;refine i.out _ _ (⟨p.cn.cell 24 c.cf.ki Z,p.row.cell 11 (.slice a s.bl.length cap) Z⟩) ?_;clear i t k;refine fun k=>aW ?_;refine aQ 12 ?_;refine ay ?_ _;clear k g;have M:=H (q.report ack s.bl);have a6:=AM q.o (bl:=s.bl) ⟨X,a0⟩;have I:=H (show c.G6 now s ack=(((c.report ack s.bl).EL now c.gi ack).announce ack s.win).EM ack (c.Dx ack s.bl) c.flight from Z);generalize c.Dx ack s.bl=sk at I a6|-;generalize c.report ack s.bl=r at I M p;have g:=H p.o;clear p
 go_upto_if 45 with fail
 go_cut []from 45 to 77 (fun J=>Sw f w w.heap.size (s,a,cap) (r.EL now c.gi ack) J)
 case first =>
  by_cases h2:c.gi<ack
  ·have u:=H (show r.EL now c.gi ack=(Cn.Cp { r with dl:=eE,tm:=r.tm.i1 now ack } c.gi ack).drop ack from L9 h2);have c1:=g.cn.cell 1 f.T Z;have dc:=g.cn.cell 30 r.dl.set Z;have di:=g.cn.cell 31 r.dl.since Z;have dk:=g.cn.cell 32 r.dl.ticks Z;have dn:=g.cn.free 30;have dp:=g.cn.free 31;have b2:=g.cn.free 32;have a7:=H (g.call (((g.cn.set 30 false { r with dl:=⟨false,r.dl.since,r.dl.ticks⟩ } Z Z Z Z Z).set 31 (0:Int) { r with dl:=⟨false,0,r.dl.ticks⟩ } Z Z Z Z Z).set 32 (0:Int) { r with dl:=eE } Z Z Z Z Z) (.DO ((((nF.refl _ _).setCell 30 _).setCell 31 _).setCell 32 _)));go_wp2_with fail;refine(nh f.T r.tm now ack HN.o M.tm _ a7.cn.tm).mono ?_;rintro e w6⟨rfl,ht,l⟩;replace g:=H (a7.call (a7.cn.GM ht l) (.GL l));clear ht l a7 c1 dc di dk dn dp b2;have bn:=H ((M.EJ dx).DY (Tm.Ce M.tm now ack));obtain⟨d,K⟩:∃d:Cn,d={ r with dl:=eE,tm:=r.tm.i1 now ack }:=⟨_,Z⟩;replace g:=H (g.eq (d:=d) K);rw[<-K]at u bn;clear K
   go_upto_if 63 with fail
   go_cut []from 63 to 72 (fun J=>Sw f w w.heap.size (s,a,cap) (d.Cp c.gi ack) J)
   case first =>
    by_cases h3:0<ack-max c.gi 1
    ·have bo:=H (show d.Cp c.gi ack={ d with cg:=d.cg.i1 (ack-max c.gi 1) ack }from L9 h3);have c2:=g.cn.cell 2 f.G Z;go_wp2_with fail;refine(qT f.G d.cg (ack-max c.gi 1) ack bn.cg _ g.cn.cg).mono ?_;rintro e w7⟨rfl,hg,l⟩;replace g:=H (g.call (g.cn.I3 hg l) (.Hy l));clear hg l;go_wp2_with fail
     go_meet
     case rel=>exact g.eq bo.o
    have bo:=H (show d.Cp c.gi ack=d from L7 h3);go_wp2_with fail
    go_meet
    case rel=>exact g.eq bo.o
   case rest =>
    replace g:=H hcut;have b4:=H (bn.Cp c.gi ack);generalize d.Cp c.gi ack=d2 at g u b4;clear hcut;have bu:=H (show -1099511627776<=d2.base/\d2.base<=1099511627776 by have:=b4.b0;have:=b4.Ew;omega);have bv:=H (show d2.held.length<=1099511627776 by have:=b4.hlen;omega);go_wp2_with fail;refine(vB f d2 ack _ g.cn bu.o bv.o O).mono ?_;rintro e w8⟨rfl,l,m⟩;replace g:=H (g.call l m);clear l m;go_wp2_with fail
    go_meet
    case rel=>exact g.eq u.o
  have u:=H (show r.EL now c.gi ack=r from L7 h2);go_wp2_with fail
  go_meet
  case rel=>exact g.eq u.o
 case rest =>
  replace g:=H hcut;have bz:=H (M.EL now c.gi ack);generalize r.EL now c.gi ack=d at g bz I;clear hcut M;obtain⟨a1,a2⟩:=d5.o;go_wp2_with fail;refine az (fun W:World=>W.cell? ⟨w.heap.size,8,none⟩=some (s.win:Y)) (g.row.cell 8 s.win Z) fun k=>?_;replace g:=H g.drew;generalize wc.drew=Im at g k|-;refine aA 0 1 2 3 ?_;refine aM 4 5 ?_;refine aY 6 fun t i=> ?_;go_simp;refine(ix f d ack s.win _ g.cn O ⟨a1,a2⟩).mono ?_;rintro e w9⟨rfl,l,m⟩;have p:=H (g.call l m);clear l m;go_simp;refine i.out _ _ (p.row.cell 8 s.win Z) ?_;clear i t k;refine fun k=>aW ?_;refine ay ?_ _;clear k g;have L:=H (bz.announce (show ack<=1099511562240 by omega) ⟨a1,a2⟩);generalize d.announce ack s.win=b at p L I;clear bz;have g:=H p.o;clear p;obtain⟨cC,cF⟩:=L.mark
  go_upto_region 15 with fail
  go_cut [109]from 84 to 110 (fun v J=>v=(decide (0<sk/\b.mark<=ack/\b.sc.lost b.go≠[]):Y)/\Sw f w w.heap.size (s,a,cap) b J)
  case first =>
   by_cases h4:0<sk
   ·by_cases h5:b.mark<=ack
    ·by_cases h6:b.sc.lost b.go=[]
     ·have b5:(b.sc.lost b.go).length=0:=by rw[h6];rfl
      refine az (fun W:World=>W.cell? ⟨f.C,10,none⟩=some (b.mark:Y)/\W.cell? f.C=some (f.S:Y)/\W.cell? ⟨f.C,7,none⟩=some (b.go:Y)) (⟨g.cn.cell 10 b.mark Z,g.cn.cell 0 f.S Z,g.cn.cell 7 b.go Z⟩) fun k=>?_;replace g:=H g.drew;generalize w9.drew=Ib at g k|-;refine aQ 0 ?_;refine aQ 1 (v:=.bool true) ?_ (hy:=Pb);refine aA 2 3 4 5 ?_;refine aM 6 7 ?_;refine aQ 8 ?_;refine aQ 9 (v:=.bool true) ?_ (hy:=Pb);refine aA 10 11 12 13 ?_;refine aA 14 15 16 17 ?_;refine aA 18 19 20 21 ?_;refine aY 22 fun t i=> ?_;go_simp;refine(jM f.S (f.S+1) b.sc b.go _ L.sc g.cn.sc).mono ?_;rintro e b6⟨v,rfl,ho,n⟩;obtain⟨la,lc,rfl,-⟩:=ho.val;replace g:=H (g.qn n);clear n ho;go_simp;refine i.out _ _ (⟨g.cn.cell 10 b.mark Z,g.cn.cell 0 f.S Z,g.cn.cell 7 b.go Z⟩) ?_;clear i t k;refine fun k=>aW ?_;refine aQ 23 ?_;refine aQ 24 (v:=.bool false) ?_ (hy:=PD);refine aQ 25 ?_;refine ay ?_ _;clear k;go_wp2_with fail
      go_meet
      case rel=>exact⟨congrArg Value.bool (Lh (fun h=>h.2.2 h6)).symm,g.o⟩
     have b5:0<(b.sc.lost b.go).length:=List.length_pos_iff.2 h6;refine az (fun W:World=>W.cell? ⟨f.C,10,none⟩=some (b.mark:Y)/\W.cell? f.C=some (f.S:Y)/\W.cell? ⟨f.C,7,none⟩=some (b.go:Y)) (⟨g.cn.cell 10 b.mark Z,g.cn.cell 0 f.S Z,g.cn.cell 7 b.go Z⟩) fun k=>?_;replace g:=H g.drew;generalize w9.drew=Ib at g k|-;refine aQ 0 ?_;refine aQ 1 (v:=.bool true) ?_ (hy:=Pb);refine aA 2 3 4 5 ?_;refine aM 6 7 ?_;refine aQ 8 ?_;refine aQ 9 (v:=.bool true) ?_ (hy:=Pb);refine aA 10 11 12 13 ?_;refine aA 14 15 16 17 ?_;refine aA 18 19 20 21 ?_;refine aY 22 fun t i=> ?_;go_simp;refine(jM f.S (f.S+1) b.sc b.go _ L.sc g.cn.sc).mono ?_;rintro e b6⟨v,rfl,ho,n⟩;obtain⟨la,lc,rfl,-⟩:=ho.val;replace g:=H (g.qn n);clear n ho;go_simp;refine i.out _ _ (⟨g.cn.cell 10 b.mark Z,g.cn.cell 0 f.S Z,g.cn.cell 7 b.go Z⟩) ?_;clear i t k;refine fun k=>aW ?_;refine aQ 23 ?_;refine aQ 24 (v:=.bool true) ?_ (hy:=Pb);refine aQ 25 ?_;refine ay ?_ _;clear k;go_wp2_with fail
     go_meet
     case rel=>exact⟨congrArg Value.bool (Le ⟨h4,h5,h6⟩).symm,g.o⟩
    refine az (fun W:World=>W.cell? ⟨f.C,10,none⟩=some (b.mark:Y)/\W.cell? f.C=some (f.S:Y)/\W.cell? ⟨f.C,7,none⟩=some (b.go:Y)) (⟨g.cn.cell 10 b.mark Z,g.cn.cell 0 f.S Z,g.cn.cell 7 b.go Z⟩) fun k=>?_;replace g:=H g.drew;generalize w9.drew=Ib at g k|-;refine aQ 0 ?_;refine aQ 1 (v:=.bool true) ?_ (hy:=Pb);refine aA 2 3 4 5 ?_;refine aM 6 7 ?_;refine aQ 8 ?_;refine aQ 9 (v:=.bool false) ?_ (hy:=PD);refine aM 10 11 ?_;refine aU 12 ?_;refine aU 13 ?_;refine aU 14 ?_;refine aU 15 ?_;refine aU 16 ?_;refine aU 17 ?_;refine aU 18 ?_;refine aU 19 ?_;refine aU 20 ?_;refine aU 21 ?_;refine aU 22 ?_;refine aU 23 ?_;refine aU 24 ?_;refine aQ 25 ?_;refine ay ?_ _;clear k;go_wp2_with fail
    go_meet
    case rel=>exact⟨congrArg Value.bool (Lh (fun h=>by have:=h.2.1;omega)).symm,g.o⟩
   refine az (fun W:World=>W.cell? ⟨f.C,10,none⟩=some (b.mark:Y)/\W.cell? f.C=some (f.S:Y)/\W.cell? ⟨f.C,7,none⟩=some (b.go:Y)) (⟨g.cn.cell 10 b.mark Z,g.cn.cell 0 f.S Z,g.cn.cell 7 b.go Z⟩) fun k=>?_;replace g:=H g.drew;generalize w9.drew=Ib at g k|-;refine aQ 0 ?_;refine aQ 1 (v:=.bool false) ?_ (hy:=PD);refine aQ 2 ?_;refine aU 3 ?_;refine aU 4 ?_;refine aU 5 ?_;refine aU 6 ?_;refine aU 7 ?_;refine aU 8 ?_;refine aU 9 ?_;refine aM 10 11 ?_;refine aU 12 ?_;refine aU 13 ?_;refine aU 14 ?_;refine aU 15 ?_;refine aU 16 ?_;refine aU 17 ?_;refine aU 18 ?_;refine aU 19 ?_;refine aU 20 ?_;refine aU 21 ?_;refine aU 22 ?_;refine aU 23 ?_;refine aU 24 ?_;refine aQ 25 ?_;refine ay ?_ _;clear k;go_wp2_with fail
   go_meet
   case rel=>exact⟨congrArg Value.bool (Lh (fun h=>by have:=h.1;omega)).symm,g.o⟩
  case rest =>
   obtain⟨rfl,c6⟩:=hcut;replace g:=H c6;clear c6
   go_upto_if 109 with fail
   go_cut []from 109 to 121 (fun J=>Sw f w w.heap.size (s,a,cap) (b.EM ack sk c.flight) J)
   case first =>
    by_cases N:0<sk/\b.mark<=ack/\b.sc.lost b.go≠[]
    ·rw[Le N];have u:=H (show b.EM ack sk c.flight={ b with cg:=b.cg.lost c.flight b.next }from L9 N);clear N;go_wp2_with fail;refine az (fun W:World=>W.cell? ⟨f.C,2,none⟩=some (f.G:Y)) (g.cn.cell 2 f.G Z) fun k=>?_;replace g:=H g.drew;generalize wc.drew=Im at g k|-;refine aA 0 1 2 3 ?_;refine aA 4 5 6 7 ?_;refine aQ 8 ?_;refine aY 9 fun t i=> ?_;go_simp;refine(aZ f b _ g.cn).mono ?_;rintro e b8⟨rfl,n⟩;replace g:=H (g.qn n);clear n;go_simp;refine i.out _ _ (g.cn.cell 2 f.G Z) ?_;clear i t k;refine fun k=>aW ?_;refine aY 10 fun t i=> ?_;go_simp;refine(xS f.G b.cg c.flight b.next (by unfold aI;omega) L.cg _ g.cn.cg).mono ?_;rintro e b9⟨rfl,hg,l⟩;have p:=H (g.call (g.cn.I3 hg l) (.Hy l));clear hg l;go_simp;refine i.out _ _ (p.cn.cell 2 f.G Z) ?_;clear i t k;refine fun k=>aW ?_;refine ay ?_ _;clear k;go_wp2_with fail
     go_meet
     case rel=>exact p.eq u.o
    rw[Lh N];have u:=H (show b.EM ack sk c.flight=b from L7 N);clear N;go_wp2_with fail
    go_meet
    case rel=>exact g.eq u.o
   case rest =>
    replace g:=H hcut;have b3:=H (L.EM ack sk c.flight);generalize b.EM ack sk c.flight=d3 at g b3 I;clear hcut L cC cF;rw[I.o]at z;clear I;by_cases P:c.gi<=c.last
    ·have cL:decide (c.gi<=c.last)=true:=Le P;have H8:=H P;clear P;by_cases U:c.last<ack
     ·have cM:decide (c.last<ack)=true:=Le U;have H9:=H U;clear U;go_wp2_with fail;refine(cR f d3 now 7 _ g.cn b3.st D).mono ?_;rintro e c0⟨rfl,l,m⟩;replace g:=H (g.call l m);clear l m;go_wp2_with fail
      go_end0
      exact⟨Z,by rw[z.o,L9 ⟨H8.o,H9.o⟩];exact g.cn,g.ch⟩
     have cM:decide (c.last<ack)=false:=Lh U;have H9:=H U;clear U;go_wp2_with fail
     go_end0
     exact⟨Z,by rw[z.o,L7 (fun h=>by have:=H9.o;have:=h.2;omega)];exact g.cn,g.ch⟩
    have cL:decide (c.gi<=c.last)=false:=Lh P;have H8:=H P;clear P;go_wp2_with fail
    go_end0
    exact⟨Z,by rw[z.o,L7 (fun h=>by have:=H8.o;have:=h.1;omega)];exact g.cn,g.ch⟩
end
end Go.Proofs.YtcmncipikdpnbaaGreatDoor
