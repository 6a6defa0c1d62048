import Derived.Test.YtcmncipikdpnbaaGreatDoorUb24
import Derived.Test.YtcmncipikdpnbaaGreatDoorUb27
namespace Go.Proofs.YtcmncipikdpnbaaGreatDoor
section
set_option maxHeartbeats 8000000
set_option maxRecDepth 100000
open Go.RowKit Go.Shelf
def By (f:Fp)(w:World)(b:Bool)(d:Cn)(e:Ending)(w':World):Prop:=e= .returned b/\kf f d w'/\nA f w w'
theorem fX (b:Bx):b.rep.length=0↔b.bl=[]:=by
 rw[Bx.Cs]
 constructor
 ·intro h;exact LR O
 intro h;rw[h];rfl
theorem lW (f:Fp) (c:Cn) (off:Int) (s:List UInt8) (w:World) (h:kf f c w) (ok:c.Ok) (ho: -2147483648<=off/\off<=2147483647) (hs:s.length<=1024) :
  Calls Tryz.prog 139 #[.pointer (some ⟨f.C,11,none⟩),off,.string ⟨s.toArray⟩] w (By f w (c.EM off s) (c.insert off s)):=by
 have J:=H ok;have a:=H h;have j:=H (nA.refl f w);have e4:=ok.ox;have hz:(⟨s.toArray⟩:ByteArray).size=s.length:=IL
 obtain⟨f1,e5⟩:=ho;obtain⟨f2,a0⟩:=e4;clear h ok;have HB:=H (show ∃k:Bool,k=decide (c.bx.bl≠[])from⟨_,Z⟩);have l:=a.cell 11 f.X Z
 go_enter Tryz.func139,Tryz.ntmps139
 go_wp2_with fail;refine(co f.X f.R 0 c.bx _ a.bx).mono ?_;rintro e V⟨rfl,rfl⟩;go_wp2_with fail;refine(jP f.X f.R 0 c.bx _ a.bx J.bx).mono ?_;rintro e V⟨ba,bc,rfl,-,-,-,k⟩;replace j:=H (j.trans (.A1 k));replace a:=H (a.below k);clear k l;have a1:c.bx.rep.length<=3:=by rw[Bx.Cs];omega
 have n:=a.cell 15 c.ended Z;have K:=a.cell 16 c.ox Z;obtain⟨b,p⟩:∃b,b=if c.ended=true then s.take (min (max (c.ox-off) 0) s.length).toNat else s:=⟨_,Z⟩;have F:=H p;have f3:b.length<=1024:=by rw[p];split;(rw[Le];omega);exact hs
 clear p
 go_upto_if 24 with fail
 go_cut [2]from 24 to 36 (fun L z=>L= .string ⟨b.toArray⟩/\z=V)
 case first =>
  cases he:c.ended with
  | true =>
   rw[he]at n;have i:=H (show b=s.take (min (max (c.ox-off) 0) s.length).toNat by rw[F.o,L7 he]);clear he;go_wp2_with fail
   all_goals
    go_meet
    case rel=>exact⟨by rw[i.o];rw[iE];rw[MH],Z⟩
  | false =>
   rw[he]at n;have i:=H (show b=s by rw[F.o,L5 (by rw[he];simp)]);clear he;go_wp2_with fail
   go_meet
   case rel=>exact⟨by rw[i.o],Z⟩
 case rest =>
  obtain⟨q,rfl⟩:=hcut;subst q;clear hz n K;have M:(⟨b.toArray⟩:ByteArray).size=b.length:=IL
  obtain⟨g,r⟩:∃g,g=n8 c.ended c.ox off s:=⟨_,Z⟩;have G:=H (show g=b.drop (if off<0 then(min (-off) b.length).toNat else 0) by rw[r,F.o];rfl);have N:g.length<=1024:=by rw[G.o,Lq];omega
  have HI:=H r;clear r
  go_upto_if 38 with fail
  go_cut [1,2]from 38 to 45 (fun v1 L z=>v1=((max off 0:Int):Y)/\L= .string ⟨g.toArray⟩/\z=wc)
  case first =>
   by_cases m:off<0
   ·have i:=H (show g=b.drop (min (-off) b.length).toNat by rw[G.o,L7 m]);have u:max off 0=0:=by omega
    go_wp2_with fail
    all_goals
     go_meet
     case rel=>exact⟨by rw[u],by rw[i.o];exact congrArg Value.string (lU _ _),Z⟩
   have i:=H (show g=b by rw[G.o,L5 m,MH]);have u:max off 0=off:=O
   go_wp2_with fail
   go_meet
   case rel=>exact⟨by rw[u],by rw[i.o],Z⟩
  case rest =>
   obtain⟨P,q,rfl⟩:=hcut;subst P;subst q;clear M;have S:=H (show c.uf off s=if g=[]then c.bx else c.bx.put (max off 0) g by unfold Cn.uf;rw[<-HI.o]);have e6:=H (J.insert e5 hs)
   go_upto_if 47 with fail
   go_cut []from 47 to 54 (fun z=>kf f (c.insert off s) z/\nA f w z)
   case first =>
    by_cases m:g=[]
    ·have i:=H (show c.insert off s=c by unfold Cn.insert;rw[S.o,L7 m]);subst m;go_wp2_with fail
     go_meet
     case rel=>exact⟨by rw[i.o];exact a.o,j.o⟩
    have i:=H (show c.insert off s={ c with bx:=c.bx.put (max off 0) g } by unfold Cn.insert;rw[S.o,L5 m])
    obtain⟨x,t,rfl⟩:∃x t,g=x::t:=by
     cases g with
     | nil=>exact absurd Z m
     | cons x t=>exact⟨x,t,Z⟩
    clear m;have l:=a.cell 11 f.X Z;go_wp2_with fail;refine(AT f.X f.R 0 c.bx (max off 0) ⟨(x::t).toArray⟩ _ a.bx J.bx (LW _) (by have:=N;simp only[Lx]at this;simp only[ByteArray.size,LG,Lx];omega)).mono ?_;rintro e w3⟨rfl,A,y⟩;have HT:=H (show kf f (c.insert off s) w3/\nA f w w3 from⟨by rw[i.o];exact a.I8 A y,j.trans (.Hr y)⟩);clear A y;go_wp2_with fail
    go_meet
    case rel=>exact HT.o
   case rest =>
    obtain⟨hc,E⟩:=hcut;replace a:=H hc;replace j:=H E;clear hc E S G F;have l:=a.cell 11 f.X Z;have T:=H (show c.EM off s=decide ((c.uf off s).nx≠c.bx.nx/\c.bx.bl=[]/\(c.uf off s).bl=[])from Z);have am:=H (show(c.uf off s).Ok from e6.bx);go_wp2_with fail;refine(co f.X f.R 0 (c.uf off s) _ a.bx).mono ?_;rintro e w4⟨rfl,rfl⟩;by_cases h1:(c.uf off s).nx=c.bx.nx
    ·have U:=H (show c.EM off s=false by rw[T.o];exact Lf (fun h=>h.1 h1));have hd:((c.uf off s).nx==c.bx.nx)=true:=Mb.2 h1;go_wp2;go_ret;exact⟨vk U.symm,a.o,j.o⟩
    have hd:((c.uf off s).nx==c.bx.nx)=false:=Ll.2 h1;have H1:=H h1;by_cases h2:c.bx.bl=[]
    ·have H2:=H h2;have I:c.bx.rep.length=0:=(fX c.bx).2 h2;have e7:decide (0<c.bx.rep.length)=false:=by rw[I];rfl
     clear h2 I;go_wp2_with fail;refine(jP f.X f.R 0 (c.uf off s) _ a.bx am.o).mono ?_;rintro e w5⟨a2,a3,rfl,-,-,-,k⟩;replace j:=H (j.trans (.A1 k));replace a:=H (a.below k);clear k l;have HQ:=H (show decide ((c.uf off s).rep.length=0)=c.EM off s by rw[T.o];exact N6.2 ⟨fun h=>⟨H1.o,H2.o,(fX _).1 h⟩,fun h=>(fX _).2 h.2.2⟩);have e8:(c.uf off s).rep.length<=3:=by rw[Bx.Cs];omega
     go_wp2;go_ret;exact⟨vk (by rw[<-HQ.o];first | rfl | exact N6.2 O | (simp;done) | (rw[NO];simp;omega)),a.o,j.o⟩
    have U:=H (show c.EM off s=false by rw[T.o];exact Lf (fun h=>h2 h.2.1));have I:0<c.bx.rep.length:=Nat.pos_of_ne_zero (fun e=>h2 ((fX c.bx).1 e));have e7:decide (0<c.bx.rep.length)=true:=Lc I;clear h2;go_wp2;go_ret;exact⟨vk U.symm,a.o,j.o⟩
end
section
set_option maxHeartbeats 8000000
set_option maxRecDepth 100000
open Go.RowKit Go.Shelf
structure Sw (f:Fp)(w0:World)(B:Nat)(x:cQ)(c:Cn)(W:World):Prop where
 cn:kf f c W
 ch:nA f w0 W
 row:aT B x W
 bl:bF W x.2.1 x.1.bl
 top:eQ<=B
namespace Sw
variable {f : Fp} {c d : Cn} {w0 W W' : World} {B : Nat} {x : cQ}
theorem start (h:kf f c W)(b:bF W x.2.1 x.1.bl):Sw f W W.heap.size x c (W.alloc (.cells (aY x).toArray 53)):=by
 have a:=(L3 W.heap.size W).alloc (L4 _) (.cells (aY x).toArray 53);exact⟨h.below a,.A1 a,aT.new _ _,b.keep a.size (.below a),h.gl.top⟩
theorem oz (h:Sw f w0 B x c W)(a:Below W.heap.size W W'):Sw f w0 B x c W':=⟨h.cn.below a,h.ch.trans (.A1 a),h.row.below a,h.bl.keep a.size (.below a),h.top⟩
theorem call (h:Sw f w0 B x c W)(b:kf f d W')(a:nA f W W'):Sw f w0 B x d W':=⟨b,h.ch.trans a,h.row.sT h.cn a,h.bl.sT h.cn a,h.top⟩
theorem drew (h:Sw f w0 B x c W):Sw f w0 B x c W.drew:=h.oz (L3 _ _).drew
theorem eq (h:Sw f w0 B x c W)(e:d=c):Sw f w0 B x d W:=e ▸ h
end Sw
theorem nD (f:Fp) (c:Cn) (now:Int) (s:Sg) (off:Int) (a:Option Addr) (cap:Nat) (w:World) (h:kf f c w) (ok:c.Ok) (hs:s.Ok) (M:bF w a s.bl) (ho: -2147483648<=off/\off<=2147483647) :
  Calls Tryz.prog 89 #[f.C,now,dZ s a cap,off] w fun e w'=>e= .returned (.tuple #[])/\kf f (c.store now s off) w'/\nA f w w':=by
 have N:=H ok;have J:=H hs.Dj;have T:=h.lt;have U:=h.zs;have b:=H (Sw.start (x:=(s,a,cap)) h M);obtain⟨g1,u,y,z,A,E,F,G,I,k,l,m,K⟩:=s;clear h M ok hs;unfold dZ;dsimp only
 cases K with
 | nil =>
  have L:=H (show c.store now ⟨g1,u,y,z,A,E,F,G,I,k,l,m,[]⟩ off=c from L7 Z);rw[L.o]
  go_enter Tryz.func89,Tryz.ntmps89
  go_wp2_with fail
  go_end0
  exact⟨Z,b.cn,b.ch⟩
 | cons x t =>
  have L:=H (show c.store now ⟨g1,u,y,z,A,E,F,G,I,k,l,m,x::t⟩ off=if jr c.st=true then(if c.EM off (x::t)=true then(c.insert off (x::t)).rl now else(c.insert off (x::t)).gB)else c.gB from L5 (List.cons_ne_nil x t));rw[L.o];dsimp only at J
  cases hc:jr c.st with
  | false =>
   rw[L5 FE]
   go_enter Tryz.func89,Tryz.ntmps89
   go_wp2_with fail;change Code.wp _ _ _ _ (w.alloc (.cells (aY (⟨g1,u,y,z,A,E,F,G,I,k,l,m,x::t⟩,a,cap)).toArray 53));generalize w.alloc (.cells (aY (⟨g1,u,y,z,A,E,F,G,I,k,l,m,x::t⟩,a,cap)).toArray 53)=w1 at b|-;refine az (fun W:World=>W.cell? ⟨f.C,28,none⟩=some (c.st:Y)/\W.cell? ⟨w.heap.size,12,none⟩=some (.string ⟨(x::t).toArray⟩)) (⟨b.cn.cell 28 c.st Z,b.row.cell 12 (.string ⟨(x::t).toArray⟩) Z⟩) fun j=>?_;replace b:=H b.drew;generalize w1.drew=w2 at b j|-;refine aA 0 1 2 3 ?_;refine aZ 4 fun r g=> ?_;go_simp;refine(bJ c.st _).mono ?_;rintro e P⟨rfl,rfl⟩;rw[hc];go_simp;refine g.out _ _ (⟨b.cn.cell 28 c.st Z,b.row.cell 12 (.string ⟨(x::t).toArray⟩) Z⟩) ?_;clear g r j;refine fun j=>aW ?_;refine aQ 5 ?_;refine aU 6 ?_;refine aU 7 ?_;refine aU 8 ?_;refine aU 9 ?_;refine aU 10 ?_;refine aU 11 ?_;refine aU 12 ?_;refine aM 13 14 ?_;refine ay ?_ _;clear j;go_wp2_with fail;refine(cK f c _ b.cn).mono ?_;rintro e S⟨rfl,n,i⟩;replace b:=H (b.call n i);clear n i;go_wp2_with fail
   go_end0
   exact⟨Z,b.cn,b.ch⟩
  | true =>
   rw[L7 Z]
   cases hi:c.EM off (x::t)with
   | true =>
    rw[L7 Z]
    go_enter Tryz.func89,Tryz.ntmps89
    go_wp2_with fail;change Code.wp _ _ _ _ (w.alloc (.cells (aY (⟨g1,u,y,z,A,E,F,G,I,k,l,m,x::t⟩,a,cap)).toArray 53));generalize w.alloc (.cells (aY (⟨g1,u,y,z,A,E,F,G,I,k,l,m,x::t⟩,a,cap)).toArray 53)=w1 at b|-;refine az (fun W:World=>W.cell? ⟨f.C,28,none⟩=some (c.st:Y)/\W.cell? ⟨w.heap.size,12,none⟩=some (.string ⟨(x::t).toArray⟩)) (⟨b.cn.cell 28 c.st Z,b.row.cell 12 (.string ⟨(x::t).toArray⟩) Z⟩) fun j=>?_;replace b:=H b.drew;generalize w1.drew=w2 at b j|-;refine aA 0 1 2 3 ?_;refine aZ 4 fun r g=> ?_;go_simp;refine(bJ c.st _).mono ?_;rintro e P⟨rfl,rfl⟩;rw[hc];go_simp;refine g.out _ _ (⟨b.cn.cell 28 c.st Z,b.row.cell 12 (.string ⟨(x::t).toArray⟩) Z⟩) ?_;clear g r j;refine fun j=>aW ?_;refine aA 5 6 7 8 ?_;refine aM 9 10 ?_;refine aQ 11 ?_;refine aZ 12 fun r g=> ?_;go_simp;refine(lW f c off (x::t) _ b.cn N.o ho (by have:=J.o;omega)).mono ?_;rintro e V⟨rfl,q,i⟩;rw[hi];have p:=H (b.call q i);clear q i b;go_simp;refine g.out _ _ (⟨p.cn.cell 28 c.st Z,p.row.cell 12 (.string ⟨(x::t).toArray⟩) Z⟩) ?_;clear g r j;refine fun j=>aW ?_;refine aM 13 14 ?_;refine ay ?_ _;clear j;go_wp2_with fail;refine(pT f (c.insert off (x::t)) now _ p.cn).mono ?_;rintro e S⟨rfl,n,i⟩;replace p:=H (p.call n i);clear n i;go_wp2_with fail
    go_end0
    exact⟨Z,p.cn,p.ch⟩
   | false =>
    rw[L5 FE]
    go_enter Tryz.func89,Tryz.ntmps89
    go_wp2_with fail;change Code.wp _ _ _ _ (w.alloc (.cells (aY (⟨g1,u,y,z,A,E,F,G,I,k,l,m,x::t⟩,a,cap)).toArray 53));generalize w.alloc (.cells (aY (⟨g1,u,y,z,A,E,F,G,I,k,l,m,x::t⟩,a,cap)).toArray 53)=w1 at b|-;refine az (fun W:World=>W.cell? ⟨f.C,28,none⟩=some (c.st:Y)/\W.cell? ⟨w.heap.size,12,none⟩=some (.string ⟨(x::t).toArray⟩)) (⟨b.cn.cell 28 c.st Z,b.row.cell 12 (.string ⟨(x::t).toArray⟩) Z⟩) fun j=>?_;replace b:=H b.drew;generalize w1.drew=w2 at b j|-;refine aA 0 1 2 3 ?_;refine aZ 4 fun r g=> ?_;go_simp;refine(bJ c.st _).mono ?_;rintro e P⟨rfl,rfl⟩;rw[hc];go_simp;refine g.out _ _ (⟨b.cn.cell 28 c.st Z,b.row.cell 12 (.string ⟨(x::t).toArray⟩) Z⟩) ?_;clear g r j;refine fun j=>aW ?_;refine aA 5 6 7 8 ?_;refine aM 9 10 ?_;refine aQ 11 ?_;refine aZ 12 fun r g=> ?_;go_simp;refine(lW f c off (x::t) _ b.cn N.o ho (by have:=J.o;omega)).mono ?_;rintro e V⟨rfl,q,i⟩;rw[hi];have p:=H (b.call q i);clear q i b;go_simp;refine g.out _ _ (⟨p.cn.cell 28 c.st Z,p.row.cell 12 (.string ⟨(x::t).toArray⟩) Z⟩) ?_;clear g r j;refine fun j=>aW ?_;refine aM 13 14 ?_;refine ay ?_ _;clear j;go_wp2_with fail;refine(cK f (c.insert off (x::t)) _ p.cn).mono ?_;rintro e S⟨rfl,n,i⟩;replace p:=H (p.call n i);clear n i;go_wp2_with fail
    go_end0
    exact⟨Z,p.cn,p.ch⟩
def Cn.Eh (c:Cn)(s:Sg)(off:Int):Cn:=if s.fin=true/\aV c.st=true/\c.ended=false/\c.bx.nx<=off+s.s.length then { c with ended:=true,ox:=off+s.s.length }else c
theorem Cn.Gk (c:Cn)(now:Int)(s:Sg)(off:Int):c.qb now s off=if(c.Eh s off).reached=true/\(c.Eh s off).over=false then({ c.Eh s off with over:=true }.step now 6).gB else c.Eh s off:=rfl
theorem Cn.F7 (c:Cn)(s:Sg)(off:Int):(c.Eh s off).tries=c.tries:=by unfold Cn.Eh;split <;> rfl
theorem Cn.Ok.Eh {c:Cn}(h:c.Ok){s:Sg}{off:Int}(hs:(s.s.length:Int)<=1024-8*s.bl.length)(ho: -2147483648<=off/\off<=2147483647):(c.Eh s off).Ok:=by
 unfold Cn.Eh;split
 ·exact { h with ox:=by show _<=off+(s.s.length:Int)/\off+(s.s.length:Int)<=_;omega }
 exact h
theorem oU (f:Fp) (c:Cn) (now:Int) (s:Sg) (off:Int) (a:Option Addr) (cap:Nat) (w:World) (h:kf f c w) (ok:c.Ok) (T:aI now) (hs:s.Ok) (i:bF w a s.bl) (ho: -2147483648<=off/\off<=2147483647) (U:c.tries<=12) :
  Calls Tryz.prog 90 #[f.C,now,dZ s a cap,off] w fun e w'=>e= .returned (.tuple #[])/\kf f (c.qb now s off) w'/\nA f w w':=by
 have z:=H ok;have aF:=H hs.Dj;have a0:=ok.st;have hz:(⟨s.s.toArray⟩:ByteArray).size=s.s.length:=IL
 have a1:=h.lt;have HN:=H T;have a2:=hs.Dj;have HT:=H U;have b:=H (Sw.start (x:=(s,a,cap)) h i);clear h i ok hs T U;unfold dZ;have A:=H (Cn.Gk c now s off);obtain⟨d,n⟩:∃d,d=c.Eh s off:=⟨_,Z⟩;rw[<-n]at A;have E:=H n;have cV:=H (show d.Ok/\d.tries<=12 from n ▸ ⟨z.Eh aF.o ho,Cn.F7 c s off ▸ HT.o⟩);clear n
 go_enter Tryz.func90,Tryz.ntmps90
 go_upto_region 2 with fail
 change Code.wp _ _ _ _ (w.alloc (.cells (aY (s,a,cap)).toArray 53));generalize w.alloc (.cells (aY (s,a,cap)).toArray 53)=w1 at b|-
 go_cut [40]from 14 to 41 (fun F G=>F=(decide (s.fin=true/\aV c.st=true/\c.ended=false/\c.bx.nx<=off+s.s.length):Y)/\G=w1)
 case first =>
  have V:=b.row.cell 5 s.fin Z;by_cases g:s.fin=true
  ·rw[g]at V;have I:=H g;clear g;have b6:=b.cn.cell 28 c.st Z;by_cases q:aV c.st=true
   ·have j:jr c.st=true:=q;have J:=H q;clear q;have p:=b.cn.cell 15 c.ended Z;by_cases he:c.ended=false
    ·rw[he]at p;have K:=H (show c.ended=false from he);clear he;have a3:=b.cn.cell 11 f.X Z;have a4:=z.GO;have e9:=Lz z.bx.Do z.bx.xK;by_cases l:c.bx.nx<=off+s.s.length
     ·have n:decide (c.bx.nx<=off+s.s.length)=true:=Lc l;clear l;go_wp2_with fail;refine(bJ c.st _).mono ?_;rintro e r⟨rfl,rfl⟩;rw[j];go_wp2_with fail;refine(co f.X f.R 0 c.bx _ b.cn.bx).mono ?_;rintro e w4⟨rfl,rfl⟩;have L:=H (Lh.1 n);go_wp2_with fail
      go_meet
      case rel=>exact⟨congrArg Value.bool (Lc ⟨I.o,J.o,K.o,L.o⟩).symm,Z⟩
     have n:decide (c.bx.nx<=off+s.s.length)=false:=Lf l;clear l;go_wp2_with fail;refine(bJ c.st _).mono ?_;rintro e r⟨rfl,rfl⟩;rw[j];go_wp2_with fail;refine(co f.X f.R 0 c.bx _ b.cn.bx).mono ?_;rintro e w4⟨rfl,rfl⟩;have L:=H (Lr.1 n);go_wp2_with fail
     go_meet
     case rel=>exact⟨congrArg Value.bool (Lf (fun h=>absurd h.2.2.2 (NH.2 L.o))).symm,Z⟩
    have di:c.ended=true:=by simpa using he
    rw[di]at p;have K:=H he;clear he di;go_wp2_with fail;refine(bJ c.st _).mono ?_;rintro e r⟨rfl,rfl⟩;rw[j];go_wp2_with fail
    go_meet
    case rel=>exact⟨congrArg Value.bool (Lf (fun h=>K.o h.2.2.1)).symm,Z⟩
   have j:jr c.st=false:=by simpa[aV,jr]using q
   have J:=H q;clear q;go_wp2_with fail;refine(bJ c.st _).mono ?_;rintro e r⟨rfl,rfl⟩;rw[j];go_wp2_with fail
   go_meet
   case rel=>exact⟨congrArg Value.bool (Lf (fun h=>J.o h.2.1)).symm,Z⟩
  have b7:s.fin=false:=Ji
  rw[b7]at V;have I:=H g;clear g b7;go_wp2_with fail
  go_meet
  case rel=>exact⟨congrArg Value.bool (Lf (fun h=>I.o h.1)).symm,Z⟩
 case rest =>
  obtain⟨rfl,rfl⟩:=hcut
  go_upto_if 40 with fail
  go_cut []from 40 to 50 (fun G=>Sw f w w.heap.size (s,a,cap) d G)
  case first =>
   by_cases t:s.fin=true/\aV c.st=true/\c.ended=false/\c.bx.nx<=off+s.s.length
   ·rw[Lc t];have M:=H (show d={ c with ended:=true,ox:=off+s.s.length } by rw[E.o];exact L7 t);have a5:=b.cn.free 15;have a6:=b.cn.free 16;have p:=b.cn.cell 15 c.ended Z;have a7:=b.cn.cell 16 c.ox Z;clear t;go_wp2_with fail
    go_meet
    case rel=>exact(b.call ((b.cn.set 15 _ { c with ended:=true } Z Z Z Z Z).set 16 _ { c with ended:=true,ox:=off+s.s.length } Z Z Z Z Z) (.Da (((lh.refl _ _).setCell 15 _).setCell 16 _))).eq M.o
   rw[Lf t];have M:=H (show d=c by rw[E.o];exact L5 t);clear t;go_wp2_with fail
   go_meet
   case rel=>exact b.eq M.o
  case rest =>
   replace b:=H hcut;clear hcut E
   cases hr:d.reached with
   | false =>
    go_wp2_with fail;refine(cP f d _ b.cn).mono ?_;rintro e r⟨rfl,i⟩;replace b:=H (b.oz i);rw[hr];clear i;go_wp2_with fail
    go_end0
    exact⟨Z,by rw[A.o,L5 (by rw[hr];rintro⟨h,-⟩;cases h)];exact b.cn,b.ch⟩
   | true =>
    cases hv:d.over with
    | true =>
     go_wp2_with fail;refine(cP f d _ b.cn).mono ?_;rintro e r⟨rfl,i⟩;replace b:=H (b.oz i);rw[hr];clear i;have m:=b.cn.cell 17 (.bool d.over) Z;rw[hv]at m;go_wp2_with fail
     go_end0
     exact⟨Z,by rw[A.o,L5 (by rw[hv];rintro⟨-,h⟩;cases h)];exact b.cn,b.ch⟩
    | false =>
     go_wp2_with fail;refine(cP f d _ b.cn).mono ?_;rintro e r⟨rfl,i⟩;replace b:=H (b.oz i);rw[hr];clear i;have m:=b.cn.cell 17 (.bool d.over) Z;have N:=b.cn.free 17;rw[hv]at m;have P:=H (b.call (b.cn.set 17 true { d with over:=true } Z Z Z Z Z) (.Da ((lh.refl _ _).setCell 17 _)));have S:=H cV.1.st;clear b;go_wp2_with fail;refine(cU f { d with over:=true } now 6 _ P.cn S.o D).mono ?_;rintro e w5⟨rfl,u,k⟩;replace b:=H (P.call u k);clear u k m N P;go_wp2_with fail;refine(cK f _ _ b.cn).mono ?_;rintro e w6⟨rfl,y,k⟩;replace b:=H (b.call y k);clear y k;go_wp2_with fail
     go_end0
     exact⟨Z,by rw[A.o,L7 ⟨hr,hv⟩];exact b.cn,b.ch⟩
end
section
set_option maxHeartbeats 8000000
set_option maxRecDepth 100000
open Go.RowKit Go.Shelf
theorem rQ {e n:Int}{L:List Sp}(h:aJ e L=true)(hm:∀i,ap i L->i<n):2*(L.length:Int)<=max 0 (n-e):=by
 induction L generalizing e with
 | nil=>simp;omega
 | cons x l a =>
  obtain⟨⟨h0,h1,h2,-⟩,b⟩:=aB.1 h;have g:=a b (fun i hi=>hm i (mem_cons.2 (.inr hi)));have j:=hm (x.2-1) (mem_cons.2 (.inl ⟨O,O⟩));rw[Lx];omega
theorem Cn.Ok.GB {c:Cn}(h:c.Ok):(c.sc.sk.length:Int)<=549755813889:=by
 have:=rQ (n:=c.next) h.sc.DX (fun i hi=>(h.sc.FY i hi).2);have:=h.fM;omega
def Cq (a:Int)(b:Sp):Sp:=(aE b.1 a,aE b.2 a)
def j7 (iu:Bool)(next:Int)(x:Sp):Bool:=iu&&decide (1<=x.1/\x.1<x.2/\x.2<=next)
theorem wN (iu:Bool)(next a:Int)(bl:List Sp)(k:Nat)(b:k<bl.length) :
  dV iu next a (bl.take (k+1))=if j7 iu next (Cq a bl[k])=true then dV iu next a (bl.take k)++[Cq a bl[k]]else dV iu next a (bl.take k):=by
 unfold dV;rw[Lv b,LN,Mq];show _++List.filter _ [Cq a bl[k]]=_;rw[List.filter_cons];show _++(if j7 iu next (Cq a bl[k])=true then _ else _)=_;split
 ·rfl
 rw[List.filter_nil,LM]
theorem rR (iu:Bool)(next a:Int)(bl:List Sp):(dV iu next a bl).length<=bl.length:=by
 unfold dV;refine L8 (M5 _ _) ?_;rw[LI];exact L4 _
theorem wO (ack:Int)(L:List Sp)(k:Nat)(a:k<L.length):jJ ack (L.take (k+1))=jJ ack (L.take k)+max 0 (min L[k].2 ack-L[k].1):=by
 rw[Lv a];generalize L.take k=T
 induction T with
 | nil=>simp[jJ]
 | cons y T b=>simp only[LQ,jJ,b];omega
theorem pg {ack e:Int}{L:List Sp}(h:aJ e L=true):∀k,0<=jJ ack (L.take k)/\jJ ack (L.take k)<=max 0 (1099511627776-e):=by
 induction L generalizing e with
 | nil=>intro k;simp[jJ];omega
 | cons x l a =>
  obtain⟨⟨h0,h1,h2,g⟩,b⟩:=aB.1 h;intro k
  cases k with
  | zero=>simp[jJ];omega
  | succ k =>
   have:=a b k;rw[N9];simp only[jJ];omega
theorem rS {w:World}{base n cap:Nat}{a:Option Addr}{L:List Sp}(h:aH w base (.slice a n cap) L)(hs:L.length<=1099511627776):oB w w.heap.size a L:=by
 obtain⟨i,b,e,g,-⟩:=h.at hs
 cases e
 exact g
theorem tI {e:Int}{L:List Sp}(h:aJ e L=true){x:Sp}(hx:x∈L):0<=x.1/\x.1<x.2/\x.2<=1099511627776:=by
 induction L generalizing e with
 | nil=>cases hx
 | cons y l a =>
  obtain⟨⟨h0,_,h2,b⟩,g⟩:=aB.1 h
  rcases Mi.1 hx with rfl | hx
  ·exact⟨h0,h2,b⟩
  exact a g hx
theorem uO {s:Sc}(h:s.Ok){ack:Int}{R:List Sp}(ha: -2147483648<=ack/\ack<=2147483647): -3298534883328<=s.A2 ack R/\s.A2 ack R<=3298534883328:=by
 unfold Sc.A2;split
 ·rename_i a;have h1:=aN h.DX;have h2:=(h.go ack R).DX;unfold Sc.go at h2;rw[L7 a]at h2;have b:=aN h2;have:=h.u0;have:=h.un;have:=h.n40;omega
 omega
theorem rT (f:Fp) (c:Cn) (ack:Int) (bl:List Sp) (a:Option Addr) (cap:Nat) (w:World) (h:kf f c w) (ok:c.Ok) (l:bF w a bl) (hl:bl.length<=3) (ha: -2147483648<=ack/\ack<=2147483647) :
  Calls Tryz.prog 130 #[f.C,c.cf.kc,ack,.slice a bl.length cap] w fun e w'=>e= .returned (c.Ct ack bl)/\kf f (c.report ack bl) w'/\nA f w w':=by
 have HO:=H ok;have c7:=h.gl.top;have HC:=H h;have HX:=H (nA.refl f w);have HB:=H l;clear h l ok
 go_enter Tryz.func130,Tryz.ntmps130
 go_wp2_with fail
 go_loopg [9,20] bl.length (fun g v9 kv wr=>∃k:Nat,kv=((k:Int):Y)/\g+k=bl.length/\Below w.heap.size w wr/\aH wr w.heap.size v9 (dV c.iu c.next c.cf.kc (bl.take k)))
 case atStart=>exact⟨0,Z,Z,L3 _ _,aH.nil _ _⟩
 case round =>
  obtain⟨k,rfl,hg,l,ho⟩:=hrel;have E:=H l;have s:=H ho;clear l ho;by_cases hk:k<bl.length
  ·obtain⟨b,c8,rfl,a9,V⟩:=(HB.keep E.size (.below E.o)).1.cells O;obtain⟨d0,d1⟩:=V k hk;clear V;have ea:(k:Int)<(bl.length:Int):=by omega
   have L:=H (wN c.iu c.next c.cf.kc bl k hk);have dk:=H (show(dV c.iu c.next c.cf.kc (bl.take k)).length<=3 from L8 (rR _ _ _ _) IS);generalize bl[k]=x at d0 d1 L;generalize dV c.iu c.next c.cf.kc (bl.take k)=TL at s L dk;obtain⟨z,A⟩:=x;dsimp only at d0 d1;go_wp2_with fail
   go_upto_region 5 with fail
   have a4:=(((L3 wr.heap.size wr).alloc (L4 _) (.cells #[z,A] 149)).alloc FE (.cells #[(aE z c.cf.kc),(aE A c.cf.kc)] 149)).drew;have n:=H (E.trans (a4.mono E.size));have y:=H (s.oz a4);clear a4;have e0:=(At.new (B:=wr.heap.size+1) (W:=wr.alloc (.cells #[z,A] 149)) (i:=0) (v:=.int .i64 (aE z c.cf.kc)) (vs:= #[(aE z c.cf.kc),(aE A c.cf.kc)]) 149 FE Z).1;have e1:=(At.new (B:=wr.heap.size+1) (W:=wr.alloc (.cells #[z,A] 149)) (i:=1) (v:=.int .i64 (aE A c.cf.kc)) (vs:= #[(aE z c.cf.kc),(aE A c.cf.kc)]) 149 FE Z).1;have t:=H e1;have u:=H e0;clear e0 e1;have a5:wr.heap.size+1<(((wr.alloc (.cells #[z,A] 149)).alloc (.cells #[(aE z c.cf.kc),(aE A c.cf.kc)] 149)).drew).heap.size:=FE
   have r:=H a5;clear a5
   go_cut [12]from 24 to 33 (fun b6 wx=>b6= .pointer (some ⟨wr.heap.size+1,0,none⟩)/\wx=((wr.alloc (.cells #[z,A] 149)).alloc (.cells #[(aE z c.cf.kc),(aE A c.cf.kc)] 149)).drew)
   case first =>
    go_region_with (first | (go_at_call 79;refine(df _ _ _).mono ?_;rintro e w5⟨rfl,rfl⟩))
    all_goals
     go_wp2_with fail
     go_meet
     exact⟨Z,Z⟩
   case rest =>
    obtain⟨rfl,rfl⟩:=hcut;replace u:=H (show(((wr.alloc (.cells #[z,A] 149)).alloc (.cells #[(aE z c.cf.kc),(aE A c.cf.kc)] 149)).drew).cell? ⟨wr.heap.size+1,0,none⟩=some (aE z c.cf.kc:Y)from u.o);replace t:=H (show(((wr.alloc (.cells #[z,A] 149)).alloc (.cells #[(aE z c.cf.kc),(aE A c.cf.kc)] 149)).drew).cell? ⟨wr.heap.size+1,1,none⟩=some (aE A c.cf.kc:Y)from t.o);have a6:w.heap.size<=wr.heap.size:=E.size;generalize ((wr.alloc (.cells #[z,A] 149)).alloc (.cells #[(aE z c.cf.kc),(aE A c.cf.kc)] 149)).drew=I at n y u t r|-;generalize wr.heap.size=N1 at a6 r u t|-;clear E s d0 d1 a9;have b0:=bP z c.cf.kc;have b1:=bP A c.cf.kc;replace L:=H (show dV c.iu c.next c.cf.kc (bl.take (k+1))=if j7 c.iu c.next (aE z c.cf.kc,aE A c.cf.kc)=true then TL++[(aE z c.cf.kc,aE A c.cf.kc)]else TL from L.o);generalize aE z c.cf.kc=J at u t L b0;generalize aE A c.cf.kc=K at t L b1;have a7:=HO.fM;obtain⟨ax,bI,b2⟩:=a7
    go_upto_region 6 with fail
    go_cut [55]from 33 to 56 (fun b7 wx=>b7=(j7 c.iu c.next (J,K):Y)/\Below w.heap.size w wx/\aH wx w.heap.size u9 TL/\wx.cell? ⟨N1+1,0,none⟩=some (J:Y)/\wx.cell? ⟨N1+1,1,none⟩=some (K:Y)/\N1+1<wx.heap.size)
    case first =>
     by_cases hs:c.iu=true
     ·by_cases h1:1<=J
      focus
       by_cases h2:J<K
       ·by_cases h3:K<=c.next
        ·have HQ:=H (show true=j7 c.iu c.next (J,K) by unfold j7;rw[hs,Ny];exact(Lc ⟨h1,h2,h3⟩).symm);refine az (fun W:World=>W.cell? ⟨f.C,8,none⟩=some (c.iu:Y)/\W.cell? ⟨N1+1,0,none⟩=some (J:Y)/\W.cell? ⟨N1+1,1,none⟩=some (K:Y)) (⟨(HC.below n.o).cell 8 c.iu Z,u.o,t.o⟩) fun G=>?_;have l:=(L3 I.heap.size I).drew;replace u:=H ((l.cell (p:=⟨N1+1,0,none⟩) r.o).trans u.o);replace t:=H ((l.cell (p:=⟨N1+1,1,none⟩) r.o).trans t.o);replace r:=H (Lb r.o l.size);replace n:=H (n.trans (l.mono n.size));replace y:=H (y.oz l);clear l;generalize I.drew=w2 at u t r n y G|-;refine aM 0 1 ?_;refine aQ 2 ?_;refine aQ 3 (v:=.bool true) ?_ (hy:=JU);refine aM 4 5 ?_;refine aQ 6 ?_;refine aQ 7 (v:=.bool true) ?_ (hy:=Jo);refine aA 8 9 10 11 ?_;refine aM 12 13 ?_;refine aQ 14 (v:=.bool true) ?_ (hy:=Jo);refine aA 15 16 17 18 ?_;refine aQ 19 ?_;refine aZ 20 fun Kq X=> ?_;go_simp;refine(aX f c _ (HC.below n.o)).mono ?_;rintro e w7⟨rfl,l⟩;replace u:=H ((l.cell (p:=⟨N1+1,0,none⟩) r.o).trans u.o);replace t:=H ((l.cell (p:=⟨N1+1,1,none⟩) r.o).trans t.o);replace r:=H (Lb r.o l.size);replace n:=H (n.trans (l.mono n.size));replace y:=H (y.oz l);clear l;go_simp;refine X.out _ _ (⟨(HC.below n.o).cell 8 c.iu Z,u.o,t.o⟩) ?_;clear X Kq G;refine fun G=>aW ?_;refine aQ 21 (v:=.bool true) ?_ (hy:=Jo);refine aQ 22 ?_;refine ay ?_ _;clear G;go_wp2_with fail
         go_meet
         case rel=>exact⟨congrArg Value.bool (HQ.o),n.o,y.o,u.o,t.o,r.o⟩
        have HQ:=H (show false=j7 c.iu c.next (J,K) by unfold j7;rw[hs,Ny];exact(Lf (fun h=>h3 h.2.2)).symm);refine az (fun W:World=>W.cell? ⟨f.C,8,none⟩=some (c.iu:Y)/\W.cell? ⟨N1+1,0,none⟩=some (J:Y)/\W.cell? ⟨N1+1,1,none⟩=some (K:Y)) (⟨(HC.below n.o).cell 8 c.iu Z,u.o,t.o⟩) fun G=>?_;have l:=(L3 I.heap.size I).drew;replace u:=H ((l.cell (p:=⟨N1+1,0,none⟩) r.o).trans u.o);replace t:=H ((l.cell (p:=⟨N1+1,1,none⟩) r.o).trans t.o);replace r:=H (Lb r.o l.size);replace n:=H (n.trans (l.mono n.size));replace y:=H (y.oz l);clear l;generalize I.drew=w2 at u t r n y G|-;refine aM 0 1 ?_;refine aQ 2 ?_;refine aQ 3 (v:=.bool true) ?_ (hy:=JU);refine aM 4 5 ?_;refine aQ 6 ?_;refine aQ 7 (v:=.bool true) ?_ (hy:=Jo);refine aA 8 9 10 11 ?_;refine aM 12 13 ?_;refine aQ 14 (v:=.bool true) ?_ (hy:=Jo);refine aA 15 16 17 18 ?_;refine aQ 19 ?_;refine aZ 20 fun Kq X=> ?_;go_simp;refine(aX f c _ (HC.below n.o)).mono ?_;rintro e w7⟨rfl,l⟩;replace u:=H ((l.cell (p:=⟨N1+1,0,none⟩) r.o).trans u.o);replace t:=H ((l.cell (p:=⟨N1+1,1,none⟩) r.o).trans t.o);replace r:=H (Lb r.o l.size);replace n:=H (n.trans (l.mono n.size));replace y:=H (y.oz l);clear l;go_simp;refine X.out _ _ (⟨(HC.below n.o).cell 8 c.iu Z,u.o,t.o⟩) ?_;clear X Kq G;refine fun G=>aW ?_;refine aQ 21 (v:=.bool false) ?_ (hy:=Ke);refine aQ 22 ?_;refine ay ?_ _;clear G;go_wp2_with fail
        go_meet
        case rel=>exact⟨congrArg Value.bool (HQ.o),n.o,y.o,u.o,t.o,r.o⟩
       have HQ:=H (show false=j7 c.iu c.next (J,K) by unfold j7;rw[hs,Ny];exact(Lf (fun h=>h2 h.2.1)).symm);refine az (fun W:World=>W.cell? ⟨f.C,8,none⟩=some (c.iu:Y)/\W.cell? ⟨N1+1,0,none⟩=some (J:Y)/\W.cell? ⟨N1+1,1,none⟩=some (K:Y)) (⟨(HC.below n.o).cell 8 c.iu Z,u.o,t.o⟩) fun G=>?_;have l:=(L3 I.heap.size I).drew;replace u:=H ((l.cell (p:=⟨N1+1,0,none⟩) r.o).trans u.o);replace t:=H ((l.cell (p:=⟨N1+1,1,none⟩) r.o).trans t.o);replace r:=H (Lb r.o l.size);replace n:=H (n.trans (l.mono n.size));replace y:=H (y.oz l);clear l;generalize I.drew=w2 at u t r n y G|-;refine aM 0 1 ?_;refine aQ 2 ?_;refine aQ 3 (v:=.bool true) ?_ (hy:=JU);refine aM 4 5 ?_;refine aQ 6 ?_;refine aQ 7 (v:=.bool true) ?_ (hy:=Jo);refine aA 8 9 10 11 ?_;refine aM 12 13 ?_;refine aQ 14 (v:=.bool false) ?_ (hy:=Ke)
      rotate_left 1
      focus
       have HQ:=H (show false=j7 c.iu c.next (J,K) by unfold j7;rw[hs,Ny];exact(Lf (fun h=>h1 h.1)).symm);refine az (fun W:World=>W.cell? ⟨f.C,8,none⟩=some (c.iu:Y)/\W.cell? ⟨N1+1,0,none⟩=some (J:Y)/\W.cell? ⟨N1+1,1,none⟩=some (K:Y)) (⟨(HC.below n.o).cell 8 c.iu Z,u.o,t.o⟩) fun G=>?_;have l:=(L3 I.heap.size I).drew;replace u:=H ((l.cell (p:=⟨N1+1,0,none⟩) r.o).trans u.o);replace t:=H ((l.cell (p:=⟨N1+1,1,none⟩) r.o).trans t.o);replace r:=H (Lb r.o l.size);replace n:=H (n.trans (l.mono n.size));replace y:=H (y.oz l);clear l;generalize I.drew=w2 at u t r n y G|-;refine aM 0 1 ?_;refine aQ 2 ?_;refine aQ 3 (v:=.bool true) ?_ (hy:=JU);refine aM 4 5 ?_;refine aQ 6 ?_;refine aQ 7 (v:=.bool false) ?_ (hy:=Ke);refine aM 8 9 ?_;refine aU 10 ?_;refine aU 11 ?_;refine aU 12 ?_;refine aU 13 ?_;refine aU 14 ?_
      all_goals
       refine aM 15 16 ?_;refine aU 17 ?_;refine aU 18 ?_;refine aU 19 ?_;refine aU 20 ?_;refine aU 21 ?_;refine aQ 22 ?_;refine ay ?_ _;clear G;go_wp2_with fail
       go_meet
       case rel=>exact⟨congrArg Value.bool (HQ.o),n.o,y.o,u.o,t.o,r.o⟩
     have b3:c.iu=false:=by simpa using hs
     have HQ:=H (show false=j7 c.iu c.next (J,K) by unfold j7;rw[b3];rfl);refine az (fun W:World=>W.cell? ⟨f.C,8,none⟩=some (c.iu:Y)/\W.cell? ⟨N1+1,0,none⟩=some (J:Y)/\W.cell? ⟨N1+1,1,none⟩=some (K:Y)) (⟨(HC.below n.o).cell 8 c.iu Z,u.o,t.o⟩) fun G=>?_;have l:=(L3 I.heap.size I).drew;replace u:=H ((l.cell (p:=⟨N1+1,0,none⟩) r.o).trans u.o);replace t:=H ((l.cell (p:=⟨N1+1,1,none⟩) r.o).trans t.o);replace r:=H (Lb r.o l.size);replace n:=H (n.trans (l.mono n.size));replace y:=H (y.oz l);clear l;generalize I.drew=w2 at u t r n y G|-;refine aM 0 1 ?_;refine aQ 2 ?_;refine aQ 3 (v:=.bool false) ?_ (hy:=by intro w m;(obtain⟨F,M,P⟩:=m);rw[b3]at F;go_simp);refine aQ 4 ?_;refine aU 5 ?_;refine aU 6 ?_;refine aU 7 ?_;refine aM 8 9 ?_;refine aU 10 ?_;refine aU 11 ?_;refine aU 12 ?_;refine aU 13 ?_;refine aU 14 ?_;refine aM 15 16 ?_;refine aU 17 ?_;refine aU 18 ?_;refine aU 19 ?_;refine aU 20 ?_;refine aU 21 ?_;refine aQ 22 ?_;refine ay ?_ _;clear G;go_wp2_with fail
     go_meet
     case rel=>exact⟨congrArg Value.bool (HQ.o),n.o,y.o,u.o,t.o,r.o⟩
    case rest =>
     obtain⟨rfl,l,ho,e0,e1,a5⟩:=hcut;have E:=H l;have s:=H ho;have f4:=l.size;clear l ho n y u t r b0 b1;generalize j7 c.iu c.next (J,K)=q at L
     cases q with
     | false =>
      go_wp2_with fail
      go_roundg (gk-1)
      case measure=>omega
      case rel=>exact⟨k+1,IK,O,E.o,by rw[L.o];exact s.o⟩
     | true =>
      have ca:=H (show TL.length<=4398046511104 from L8 dk.o D)
      go_wp2_with (first | (at_builtin;refine bE _ Z _ _ Z w.heap.size _ _ Z (s.alloc _) ca.o _ (J,K) Z FE FE IH ?_;intro v4 w4 b4 b5 b9))
      have dn:=aR (N:=w.heap.size) b5 IH (fun j e=>(s.lt j e).1);have eb:=H ((E.trans (((L3 _ _).alloc (L4 _) _).mono E.size)).trans dn);clear dn b9 b5 e0 e1;have cb:=H b4;clear b4;go_wp2_with fail
      go_roundg (gk-1)
      case measure=>omega
      case rel=>exact⟨k+1,IK,O,eb.o,by rw[L.o];exact cb.o⟩
  obtain rfl:k=bl.length:=O
  rw[LS]at s;obtain⟨R,hR⟩:∃R,R=dV c.iu c.next c.cf.kc bl:=⟨_,Z⟩;rw[<-hR]at s;have dp:=H (show R.length<=3 from hR ▸ L8 (rR _ _ _ _) hl);have HR:=H hR;clear hR hk;obtain⟨ra,rc,rfl,c1⟩:=s.val;clear c1;have U:=H (HC.below E.o);have a7:=HO.fM;obtain⟨ax,bI,b2⟩:=a7;obtain⟨c2,c3⟩:=ha;go_wp2_with fail;refine(dh f c _ U.o).mono ?_;rintro e I⟨rfl,l⟩;replace U:=H (U.below l);replace E:=H (E.trans (l.mono E.size));replace s:=H (s.oz l);clear l;have c0:=U.cell 0 f.S Z;go_wp2_with fail;refine(pN f.S (f.S+1) c.sc _ U.sc).mono ?_;rintro e w2⟨v,rfl,ho,l⟩;have ec:=HO.GB;obtain⟨sa,sc,rfl,c4⟩:=ho.val;clear c4;have ds:=H (show oB w2 w2.heap.size sa c.sc.sk from rS ho O);replace U:=H (U.below l);replace E:=H (E.trans (l.mono E.size));replace s:=H (s.oz l);clear l ho c0;have ci:=H HO.sc.DX;go_wp2_with fail
  go_loopg [13,71] c.sc.sk.length (fun g c5 kv wr=>∃k:Nat,kv=((k:Int):Y)/\g+k=c.sc.sk.length/\c5=((ack-c.fM-jJ ack (c.sc.sk.take k):Int):Y)/\Below w2.heap.size w2 wr)
  case atStart=>exact⟨0,Z,Z,by rw[Nr];unfold jJ;rw[Int.sub_zero],L3 _ _⟩
  case round =>
   obtain⟨k,rfl,hg,rfl,l⟩:=hrel;have cC:=H l;clear l;have dv:=pg (ack:=ack) ci.o k;by_cases hk:k<c.sc.sk.length
   ·obtain⟨b,c8,rfl,a9,V⟩:=(ds.below cC.o).cells O;obtain⟨d0,d1⟩:=V k hk;clear V;have ea:(k:Int)<(c.sc.sk.length:Int):=by omega
    have L:=H (wO ack c.sc.sk k hk);have b8:=pg (ack:=ack) ci.o (k+1);have eB:=tI ci.o (LP hk);generalize jJ ack (c.sc.sk.take k)=T at L dv;rw[L.o]at b8;generalize c.sc.sk[k]=x at d0 d1 L b8 eB;obtain⟨z,A⟩:=x;dsimp only at d0 d1 b8 eB;go_wp2_with fail
    go_roundg (gk-1)
    case measure=>omega
    case rel=>exact⟨k+1,IK,O,by rw[L.o];go_num,cC.trans (((L3 _ _).alloc (L4 _) _).mono cC.size)⟩
   obtain rfl:k=c.sc.sk.length:=O
   rw[LS]at dv|-;have l:=cC.o;replace U:=H (U.below l);replace E:=H (E.trans (l.mono E.size));replace s:=H (s.oz l);clear l cC ds;have c0:=U.cell 0 f.S Z;go_wp2_with fail;refine(lQ f.S (f.S+1) c.sc ack ra rc R _ HO.sc U.sc ⟨rS s.o (by have:=dp.o;omega),fun hp ad e=>(s.ty ad e).ne U.BU D⟩ (by rw[La];have:=dp.o;omega)).mono ?_;rintro e w4⟨rfl,hs,hc⟩;have c6:=uO HO.sc (R:=R) ⟨c2,c3⟩;have HE:=H (show c.Ct ack bl=c.sc.A2 ack R-(ack-c.fM-jJ ack c.sc.sk) by unfold Cn.Ct;rw[HR.o]);generalize c.sc.A2 ack R=an at c6 HE|-;have ed:=H (U.FB hs hc);have eg:=H ((nA.A1 E.o).trans (.EK hc));clear hs hc;go_wp2;go_ret;exact⟨by rw[HE.o];rfl,by have:=ed.o;rw[HR.o]at this;exact this,eg.o⟩
end
section
set_option maxHeartbeats 8000000
set_option maxRecDepth 100000
open Go.RowKit Go.Shelf
theorem Sw.pre {f:Fp}{c:Cn}{w0 W V:World}{B:Nat}{x:cQ}(h:Sw f W B x c V)(hx:nA f w0 W):Sw f w0 B x c V:=⟨h.cn,hx.trans h.ch,h.row,h.bl,h.top⟩
def Cn.wE (r:Cn)(fM ack:Int):Cn:=if 0<ack-max fM 1 then { r with cg:=r.cg.go (ack-max fM 1) ack }else r
def Cn.Es (r:Cn)(now fM ack:Int):Cn:=if fM<ack then(Cn.wE { r with dl:=eG,tm:=r.tm.go now ack } fM ack).drop ack else r
def Cn.Et (b:Cn)(ack a flight:Int):Cn:=if 0<a/\b.mark<=ack/\b.sc.lost b.gi≠[]then { b with cg:=b.cg.lost flight b.next }else b
def Cn.FS (c:Cn)(now:Int)(s:Sg)(ack:Int):Cn:=(((c.report ack s.bl).Es now c.fM ack).announce ack s.win).Et ack (c.Ct ack s.bl) c.flight
def Cn.FT (c:Cn)(now:Int)(s:Sg)(ack:Int):Cn:=if ack<c.fM then c else if c.fM<=c.last/\c.last<ack then(c.FS now s ack).step now 7 else c.FS now s ack
theorem Cn.Gm (c:Cn)(now:Int)(s:Sg)(ack:Int):c.go now s ack=Cn.FT { c with tries:=0 } now s ack:=rfl
namespace Cn.Ok
variable {c : Cn}
theorem wE (h:c.Ok)(fM ack:Int):(c.wE fM ack).Ok:=by
 unfold Cn.wE;split
 ·exact h.G6 (Cg.Du h.cg _ _)
 exact h
theorem Es (h:c.Ok)(now fM ack:Int):(c.Es now fM ack).Ok:=by
 unfold Cn.Es;split
 ·exact(((h.Eo eD).Dk (Tm.v8 h.tm now ack)).wE _ _).drop _
 exact h
theorem Et (h:c.Ok)(ack a flight:Int):(c.Et ack a flight).Ok:=by
 unfold Cn.Et;split
 ·exact h.G6 (Cg.Fc h.cg _ h.Gs)
 exact h
end Cn.Ok
theorem As {c:Cn}(h:c.Ok){ack:Int}{bl:List Sp}(ha: -2147483648<=ack/\ack<=2147483647): -8796093022208<=c.Ct ack bl/\c.Ct ack bl<=8796093022208:=by
 unfold Cn.Ct;have h1:=uO h.sc (R:=dV c.iu c.next c.cf.kc bl) ha;have h2:=pg (ack:=ack) h.sc.DX c.sc.sk.length;rw[LS]at h2;have:=h.fM;omega
theorem iI (f:Fp) (y:Cn) (now:Int) (s:Sg) (ack:Int) (a:Option Addr) (cap:Nat) (w:World) (h:kf f y w) (ok:y.Ok) (hn:aI now) (hs:s.Ok) (n:bF w a s.bl) (ha: -2147483648<=ack/\ack<=2147483647) :
  Calls Tryz.prog 85 #[f.C,now,dZ s a cap,ack] w fun e w'=>e= .returned (.tuple #[])/\kf f (y.go now s ack) w'/\nA f w w':=by
 have HN:=H hn;have ei:=H hs.win;have el:=H hs.EL;have a3:=h.lt;have em:=h.cell 33 y.tries Z;have en:=h.free 33;have hA:=h.set 33 (0:Int) { y with tries:=0 } Z Z Z Z Z;have hX:nA f w (w.setCell ⟨f.C,33,none⟩ (0:Int)):=.Da ((lh.refl _ _).setCell 33 _);have hS:=(Sw.start (x:=(s,a,cap)) hA (n.sT h hX)).pre hX;rw[Mu]at hS;have q:=H ok.D9;have z:=H (Cn.Gm y now s ack);obtain⟨c,V⟩:∃c:Cn,c={ y with tries:=0 }:=⟨_,Z⟩;rw[<-V]at hS q z;have g:=H hS;clear hS hA hX V h n ok hs hn;unfold dZ;obtain⟨X,a0⟩:=ha
 go_enter Tryz.func85,Tryz.ntmps85
 go_wp2_with fail;change Calls _ _ _ ((w.setCell ⟨f.C,33,none⟩ (0:Int)).alloc (.cells (aY (s,a,cap)).toArray 53)) _;generalize ((w.setCell ⟨f.C,33,none⟩ (0:Int)).alloc (.cells (aY (s,a,cap)).toArray 53))=w1 at g|-;clear em en a3;refine(dh f c _ g.cn).mono ?_;rintro e w2⟨rfl,n⟩;replace g:=H (g.oz n);clear n;have a4:=q.fM;obtain⟨ax,bI,b2⟩:=a4;by_cases h1:ack<c.fM
 ·have hd:decide (ack<c.fM)=true:=Lc h1;have H1:=H h1;clear h1;go_wp2_with fail;exact Lm (LV Z _ _ _) Z ⟨Z,by rw[z.o];unfold Cn.FT;rw[L7 H1.o];exact g.cn,g.ch⟩
 have hd:decide (ack<c.fM)=false:=Lf h1;have H1:=H h1;clear h1;replace z:=H (show y.go now s ack=if c.fM<=c.last/\c.last<ack then(c.FS now s ack).step now 7 else c.FS now s ack by rw[z.o];exact L5 H1.o);go_wp2_with fail;refine(cr f c _ g.cn q.sc).mono ?_;rintro e w3⟨rfl,n⟩;replace g:=H (g.oz n);clear n;clear hd;have b6:=q.flight;have eo:=H (show -1099511627776<=c.base/\c.base<=1099511627776 by have:=q.b0;have:=q.E6;omega);have er:=H (show c.held.length<=1099511627776 by have:=q.hlen;omega);go_wp2_with fail;refine(ez f c _ g.cn eo.o er.o).mono ?_;rintro e w4⟨rfl,rfl⟩;replace g:=H g.drew;generalize w3.drew=w4 at g|-;have a5:0<=c.last/\c.last<=1073741824:=by have:=q.b0;have:=q.b1;unfold Cn.last at this|-;omega
 go_wp2_with fail;refine az (fun W:World=>W.cell? ⟨f.C,24,none⟩=some (c.cf.kc:Y)/\W.cell? ⟨w.heap.size,11,none⟩=some (.slice a s.bl.length cap)) (⟨g.cn.cell 24 c.cf.kc Z,g.row.cell 11 (.slice a s.bl.length cap) Z⟩) fun k=>?_;replace g:=H g.drew;generalize w4.drew=Ic at g k|-;refine aA 0 1 2 3 ?_;refine aA 4 5 6 7 ?_;refine aM 8 9 ?_;refine aQ 10 ?_;refine aZ 11 fun t i=> ?_;go_simp;refine(rT f c ack s.bl a cap _ g.cn q.o g.bl el.o ⟨X,a0⟩).mono ?_;rintro e w5⟨rfl,l,m⟩;have p:=H (g.call l m);clear l m;go_simp;refine i.out _ _ (⟨p.cn.cell 24 c.cf.kc Z,p.row.cell 11 (.slice a s.bl.length cap) Z⟩) ?_;clear i t k;refine fun k=>aW ?_;refine aQ 12 ?_;refine ay ?_ _;clear k g;have M:=H (q.report ack s.bl);have a6:=As q.o (bl:=s.bl) ⟨X,a0⟩;have I:=H (show c.FS now s ack=(((c.report ack s.bl).Es now c.fM ack).announce ack s.win).Et ack (c.Ct ack s.bl) c.flight from Z);generalize c.Ct ack s.bl=sk at I a6|-;generalize c.report ack s.bl=r at I M p;have g:=H p.o;clear p
 go_upto_if 45 with fail
 go_cut []from 45 to 77 (fun J=>Sw f w w.heap.size (s,a,cap) (r.Es now c.fM ack) J)
 case first =>
  by_cases h2:c.fM<ack
  ·have u:=H (show r.Es now c.fM ack=(Cn.wE { r with dl:=eG,tm:=r.tm.go now ack } c.fM ack).drop ack from L7 h2);have c1:=g.cn.cell 1 f.T Z;have es:=g.cn.cell 30 r.dl.set Z;have et:=g.cn.cell 31 r.dl.since Z;have eu:=g.cn.cell 32 r.dl.ticks Z;have ev:=g.cn.free 30;have ew:=g.cn.free 31;have a7:=g.cn.free 32;have av:=H (g.call (((g.cn.set 30 false { r with dl:=⟨false,r.dl.since,r.dl.ticks⟩ } Z Z Z Z Z).set 31 (0:Int) { r with dl:=⟨false,0,r.dl.ticks⟩ } Z Z Z Z Z).set 32 (0:Int) { r with dl:=eG } Z Z Z Z Z) (.Da ((((lh.refl _ _).setCell 30 _).setCell 31 _).setCell 32 _)));go_wp2_with fail;refine(nz f.T r.tm now ack HN.o M.tm _ av.cn.tm).mono ?_;rintro e w6⟨rfl,ht,l⟩;replace g:=H (av.call (av.cn.Gx ht l) (.Gu l));clear ht l av c1 es et eu ev ew a7;have b5:=H ((M.Eo eD).Dk (Tm.v8 M.tm now ack));obtain⟨d,K⟩:∃d:Cn,d={ r with dl:=eG,tm:=r.tm.go now ack }:=⟨_,Z⟩;replace g:=H (g.eq (d:=d) K);rw[<-K]at u b5;clear K
   go_upto_if 63 with fail
   go_cut []from 63 to 72 (fun J=>Sw f w w.heap.size (s,a,cap) (d.wE c.fM ack) J)
   case first =>
    by_cases h3:0<ack-max c.fM 1
    ·have cl:=H (show d.wE c.fM ack={ d with cg:=d.cg.go (ack-max c.fM 1) ack }from L7 h3);have c2:=g.cn.cell 2 f.G Z;go_wp2_with fail;refine(qv f.G d.cg (ack-max c.fM 1) ack b5.cg _ g.cn.cg).mono ?_;rintro e w7⟨rfl,hg,l⟩;replace g:=H (g.call (g.cn.Hj hg l) (.GX l));clear hg l;go_wp2_with fail
     go_meet
     case rel=>exact g.eq cl.o
    have cl:=H (show d.wE c.fM ack=d from L5 h3);go_wp2_with fail
    go_meet
    case rel=>exact g.eq cl.o
   case rest =>
    replace g:=H hcut;have b3:=H (b5.wE c.fM ack);generalize d.wE c.fM ack=d2 at g u b3;clear hcut;have cq:=H (show -1099511627776<=d2.base/\d2.base<=1099511627776 by have:=b3.b0;have:=b3.E6;omega);have cs:=H (show d2.held.length<=1099511627776 by have:=b3.hlen;omega);go_wp2_with fail;refine(vj f d2 ack _ g.cn cq.o cs.o O).mono ?_;rintro e w8⟨rfl,l,m⟩;replace g:=H (g.call l m);clear l m;go_wp2_with fail
    go_meet
    case rel=>exact g.eq u.o
  have u:=H (show r.Es now c.fM ack=r from L5 h2);go_wp2_with fail
  go_meet
  case rel=>exact g.eq u.o
 case rest =>
  replace g:=H hcut;have bb:=H (M.Es now c.fM ack);generalize r.Es now c.fM ack=d at g bb I;clear hcut M;obtain⟨a1,a2⟩:=ei.o;go_wp2_with fail;refine az (fun W:World=>W.cell? ⟨w.heap.size,8,none⟩=some (s.win:Y)) (g.row.cell 8 s.win Z) fun k=>?_;replace g:=H g.drew;generalize wc.drew=Id at g k|-;refine aA 0 1 2 3 ?_;refine aM 4 5 ?_;refine aZ 6 fun t i=> ?_;go_simp;refine(jC f d ack s.win _ g.cn O ⟨a1,a2⟩).mono ?_;rintro e w9⟨rfl,l,m⟩;have p:=H (g.call l m);clear l m;go_simp;refine i.out _ _ (p.row.cell 8 s.win Z) ?_;clear i t k;refine fun k=>aW ?_;refine ay ?_ _;clear k g;have L:=H (bb.announce (show ack<=1099511562240 by omega) ⟨a1,a2⟩);generalize d.announce ack s.win=b at p L I;clear bb;have g:=H p.o;clear p;obtain⟨cw,dT⟩:=L.mark
  go_upto_region 15 with fail
  go_cut [109]from 84 to 110 (fun v J=>v=(decide (0<sk/\b.mark<=ack/\b.sc.lost b.gi≠[]):Y)/\Sw f w w.heap.size (s,a,cap) b J)
  case first =>
   by_cases h4:0<sk
   ·by_cases h5:b.mark<=ack
    ·by_cases h6:b.sc.lost b.gi=[]
     ·have a9:(b.sc.lost b.gi).length=0:=by rw[h6];rfl
      refine az (fun W:World=>W.cell? ⟨f.C,10,none⟩=some (b.mark:Y)/\W.cell? f.C=some (f.S:Y)/\W.cell? ⟨f.C,7,none⟩=some (b.gi:Y)) (⟨g.cn.cell 10 b.mark Z,g.cn.cell 0 f.S Z,g.cn.cell 7 b.gi Z⟩) fun k=>?_;replace g:=H g.drew;generalize w9.drew=Hz at g k|-;refine aQ 0 ?_;refine aQ 1 (v:=.bool true) ?_ (hy:=Jp);refine aA 2 3 4 5 ?_;refine aM 6 7 ?_;refine aQ 8 ?_;refine aQ 9 (v:=.bool true) ?_ (hy:=Jp);refine aA 10 11 12 13 ?_;refine aA 14 15 16 17 ?_;refine aA 18 19 20 21 ?_;refine aZ 22 fun t i=> ?_;go_simp;refine(jU f.S (f.S+1) b.sc b.gi _ L.sc g.cn.sc).mono ?_;rintro e b4⟨v,rfl,ho,n⟩;obtain⟨la,lc,rfl,-⟩:=ho.val;replace g:=H (g.oz n);clear n ho;go_simp;refine i.out _ _ (⟨g.cn.cell 10 b.mark Z,g.cn.cell 0 f.S Z,g.cn.cell 7 b.gi Z⟩) ?_;clear i t k;refine fun k=>aW ?_;refine aQ 23 ?_;refine aQ 24 (v:=.bool false) ?_ (hy:=Kf);refine aQ 25 ?_;refine ay ?_ _;clear k;go_wp2_with fail
      go_meet
      case rel=>exact⟨congrArg Value.bool (Lf (fun h=>h.2.2 h6)).symm,g.o⟩
     have a9:0<(b.sc.lost b.gi).length:=List.length_pos_iff.2 h6;refine az (fun W:World=>W.cell? ⟨f.C,10,none⟩=some (b.mark:Y)/\W.cell? f.C=some (f.S:Y)/\W.cell? ⟨f.C,7,none⟩=some (b.gi:Y)) (⟨g.cn.cell 10 b.mark Z,g.cn.cell 0 f.S Z,g.cn.cell 7 b.gi Z⟩) fun k=>?_;replace g:=H g.drew;generalize w9.drew=Hz at g k|-;refine aQ 0 ?_;refine aQ 1 (v:=.bool true) ?_ (hy:=Jp);refine aA 2 3 4 5 ?_;refine aM 6 7 ?_;refine aQ 8 ?_;refine aQ 9 (v:=.bool true) ?_ (hy:=Jp);refine aA 10 11 12 13 ?_;refine aA 14 15 16 17 ?_;refine aA 18 19 20 21 ?_;refine aZ 22 fun t i=> ?_;go_simp;refine(jU f.S (f.S+1) b.sc b.gi _ L.sc g.cn.sc).mono ?_;rintro e b4⟨v,rfl,ho,n⟩;obtain⟨la,lc,rfl,-⟩:=ho.val;replace g:=H (g.oz n);clear n ho;go_simp;refine i.out _ _ (⟨g.cn.cell 10 b.mark Z,g.cn.cell 0 f.S Z,g.cn.cell 7 b.gi Z⟩) ?_;clear i t k;refine fun k=>aW ?_;refine aQ 23 ?_;refine aQ 24 (v:=.bool true) ?_ (hy:=Jp);refine aQ 25 ?_;refine ay ?_ _;clear k;go_wp2_with fail
     go_meet
     case rel=>exact⟨congrArg Value.bool (Lc ⟨h4,h5,h6⟩).symm,g.o⟩
    refine az (fun W:World=>W.cell? ⟨f.C,10,none⟩=some (b.mark:Y)/\W.cell? f.C=some (f.S:Y)/\W.cell? ⟨f.C,7,none⟩=some (b.gi:Y)) (⟨g.cn.cell 10 b.mark Z,g.cn.cell 0 f.S Z,g.cn.cell 7 b.gi Z⟩) fun k=>?_;replace g:=H g.drew;generalize w9.drew=Hz at g k|-;refine aQ 0 ?_;refine aQ 1 (v:=.bool true) ?_ (hy:=Jp);refine aA 2 3 4 5 ?_;refine aM 6 7 ?_;refine aQ 8 ?_;refine aQ 9 (v:=.bool false) ?_ (hy:=Kf);refine aM 10 11 ?_;refine aU 12 ?_;refine aU 13 ?_;refine aU 14 ?_;refine aU 15 ?_;refine aU 16 ?_;refine aU 17 ?_;refine aU 18 ?_;refine aU 19 ?_;refine aU 20 ?_;refine aU 21 ?_;refine aU 22 ?_;refine aU 23 ?_;refine aU 24 ?_;refine aQ 25 ?_;refine ay ?_ _;clear k;go_wp2_with fail
    go_meet
    case rel=>exact⟨congrArg Value.bool (Lf (fun h=>by have:=h.2.1;omega)).symm,g.o⟩
   refine az (fun W:World=>W.cell? ⟨f.C,10,none⟩=some (b.mark:Y)/\W.cell? f.C=some (f.S:Y)/\W.cell? ⟨f.C,7,none⟩=some (b.gi:Y)) (⟨g.cn.cell 10 b.mark Z,g.cn.cell 0 f.S Z,g.cn.cell 7 b.gi Z⟩) fun k=>?_;replace g:=H g.drew;generalize w9.drew=Hz at g k|-;refine aQ 0 ?_;refine aQ 1 (v:=.bool false) ?_ (hy:=Kf);refine aQ 2 ?_;refine aU 3 ?_;refine aU 4 ?_;refine aU 5 ?_;refine aU 6 ?_;refine aU 7 ?_;refine aU 8 ?_;refine aU 9 ?_;refine aM 10 11 ?_;refine aU 12 ?_;refine aU 13 ?_;refine aU 14 ?_;refine aU 15 ?_;refine aU 16 ?_;refine aU 17 ?_;refine aU 18 ?_;refine aU 19 ?_;refine aU 20 ?_;refine aU 21 ?_;refine aU 22 ?_;refine aU 23 ?_;refine aU 24 ?_;refine aQ 25 ?_;refine ay ?_ _;clear k;go_wp2_with fail
   go_meet
   case rel=>exact⟨congrArg Value.bool (Lf (fun h=>by have:=h.1;omega)).symm,g.o⟩
  case rest =>
   obtain⟨rfl,eC⟩:=hcut;replace g:=H eC;clear eC
   go_upto_if 109 with fail
   go_cut []from 109 to 121 (fun J=>Sw f w w.heap.size (s,a,cap) (b.Et ack sk c.flight) J)
   case first =>
    by_cases N:0<sk/\b.mark<=ack/\b.sc.lost b.gi≠[]
    ·rw[Lc N];have u:=H (show b.Et ack sk c.flight={ b with cg:=b.cg.lost c.flight b.next }from L7 N);clear N;go_wp2_with fail;refine az (fun W:World=>W.cell? ⟨f.C,2,none⟩=some (f.G:Y)) (g.cn.cell 2 f.G Z) fun k=>?_;replace g:=H g.drew;generalize wc.drew=Id at g k|-;refine aA 0 1 2 3 ?_;refine aA 4 5 6 7 ?_;refine aQ 8 ?_;refine aZ 9 fun t i=> ?_;go_simp;refine(aX f b _ g.cn).mono ?_;rintro e b7⟨rfl,n⟩;replace g:=H (g.oz n);clear n;go_simp;refine i.out _ _ (g.cn.cell 2 f.G Z) ?_;clear i t k;refine fun k=>aW ?_;refine aZ 10 fun t i=> ?_;go_simp;refine(yM f.G b.cg c.flight b.next (by unfold aI;omega) L.cg _ g.cn.cg).mono ?_;rintro e b8⟨rfl,hg,l⟩;have p:=H (g.call (g.cn.Hj hg l) (.GX l));clear hg l;go_simp;refine i.out _ _ (p.cn.cell 2 f.G Z) ?_;clear i t k;refine fun k=>aW ?_;refine ay ?_ _;clear k;go_wp2_with fail
     go_meet
     case rel=>exact p.eq u.o
    rw[Lf N];have u:=H (show b.Et ack sk c.flight=b from L5 N);clear N;go_wp2_with fail
    go_meet
    case rel=>exact g.eq u.o
   case rest =>
    replace g:=H hcut;have cV:=H (L.Et ack sk c.flight);generalize b.Et ack sk c.flight=d3 at g cV I;clear hcut L cw dT;rw[I.o]at z;clear I;by_cases P:c.fM<=c.last
    ·have d4:decide (c.fM<=c.last)=true:=Lc P;have H8:=H P;clear P;by_cases U:c.last<ack
     ·have d8:decide (c.last<ack)=true:=Lc U;have H9:=H U;clear U;go_wp2_with fail;refine(cU f d3 now 7 _ g.cn cV.st D).mono ?_;rintro e c0⟨rfl,l,m⟩;replace g:=H (g.call l m);clear l m;go_wp2_with fail
      go_end0
      exact⟨Z,by rw[z.o,L7 ⟨H8.o,H9.o⟩];exact g.cn,g.ch⟩
     have d8:decide (c.last<ack)=false:=Lf U;have H9:=H U;clear U;go_wp2_with fail
     go_end0
     exact⟨Z,by rw[z.o,L5 (fun h=>by have:=H9.o;have:=h.2;omega)];exact g.cn,g.ch⟩
    have d4:decide (c.fM<=c.last)=false:=Lf P;have H8:=H P;clear P;go_wp2_with fail
    go_end0
    exact⟨Z,by rw[z.o,L5 (fun h=>by have:=H8.o;have:=h.1;omega)];exact g.cn,g.ch⟩
end
section
set_option maxHeartbeats 8000000
set_option maxRecDepth 100000
open Go.RowKit Go.Shelf
theorem aL.base {w:World}{b b':Nat}{v:Value}{L:List Sg}(h:aL w b v L)(j:b'<=b):aL w b' v L:=by
 obtain⟨M,h1,h2,a⟩:=h;refine⟨M,h1,?_,a⟩
 rcases h2 with⟨k,hy⟩
 exact⟨k,hy.imp id (fun⟨g,e,i,h1,h2,a⟩=>⟨g,e,i,h1,L8 j h2,a⟩)⟩
theorem Cn.F8 (c:Cn)(now:Int)(s:Sg)(off:Int):c.process now s off =
 if c.st=2 then
  if aE s.ak c.cf.kc<1\/c.next<aE s.ak c.cf.kc then(c,[c.qH s.ak])
  else if(c.step now 4).shut=true then(((((c.step now 4).step now 5).go now s (aE s.ak c.cf.kc)).store now s off).qb now s off).push now
  else((((c.step now 4).go now s (aE s.ak c.cf.kc)).store now s off).qb now s off).push now
 else if c.next<aE s.ak c.cf.kc then c.gB.push now
 else(((c.go now s (aE s.ak c.cf.kc)).store now s off).qb now s off).push now:=by
 unfold Cn.process;dsimp only;by_cases h2:c.st=2
 ·rw[L7 h2,L7 h2];by_cases a:aE s.ak c.cf.kc<1\/c.next<aE s.ak c.cf.kc
  ·rw[L7 a,L7 a]
  rw[L5 a,L5 a];by_cases b:(c.step now 4).shut=true
  ·rw[L7 b,L7 b]
  rw[L5 b,L5 b]
 rw[L5 h2,L5 h2]
theorem ph (f:Fp) (c:Cn) (now:Int) (s:Sg) (off:Int) (a:Option Addr) (cap:Nat) (w:World) (h:kf f c w) (ok:c.Ok) (hn:aI now) (hs:s.Ok) (l:bF w a s.bl) (ho: -2147483648<=off/\off<=2147483647) :
  Calls Tryz.prog 46 #[f.C,now,dZ s a cap,off] w (dj f w (c.process now s off).2 (c.process now s off).1):=by
 have m:=H hn;have n:=H hs;have a3:=h.gl.top;have b0:=h.lt;have T:=H ok;have b:=H (Sw.start (x:=(s,a,cap)) h l);clear h l ok hs hn;unfold dZ;have ex:=H (show(c.process now s off)=c.process now s off from Z);obtain⟨R,hR⟩:∃R,R=c.process now s off:=⟨_,Z⟩;rw[<-hR];have V:=H hR;clear hR ex;have p:=bP s.ak c.cf.kc;have a2:=T.fM;obtain⟨ax,bI,b2⟩:=a2
 go_enter Tryz.func46,Tryz.ntmps46
 go_wp2_with fail;change Code.wp _ _ _ _ (w.alloc (.cells (aY (s,a,cap)).toArray 53));generalize w.alloc (.cells (aY (s,a,cap)).toArray 53)=w1 at b|-;refine az (fun W:World=>W.cell? ⟨w.heap.size,3,none⟩=some (s.ak:Y)/\W.cell? ⟨f.C,24,none⟩=some (c.cf.kc:Y)) (⟨b.row.cell 3 s.ak Z,b.cn.cell 24 c.cf.kc Z⟩) fun hZ=>?_;replace b:=H b.drew;generalize w1.drew=FZ at b hZ|-;refine aA 0 1 2 3 ?_;refine aM 4 5 ?_;refine aQ 6 ?_;refine aZ 7 fun Kq a0=> ?_;go_simp;refine(df _ _ _).mono ?_;rintro e w2⟨rfl,rfl⟩;go_simp;refine a0.out _ _ (⟨b.row.cell 3 s.ak Z,b.cn.cell 24 c.cf.kc Z⟩) ?_;clear a0 Kq hZ;refine fun hZ=>aW ?_;refine aQ 8 ?_;refine ay ?_ _;clear hZ;have r:=H (Cn.F8 c now s off);obtain⟨ak,a1⟩:∃ak,ak=aE s.ak c.cf.kc:=⟨_,Z⟩;rw[<-a1]at r p|-;clear a1;have b6:=b.cn.cell 28 c.st Z;by_cases h2:c.st=2
 ·by_cases X:ak<1
  ·have j:=H (r.trans (by rw[L7 h2,L7 (.inl X)]));have bd:decide (ak<1)=true:=Lc X;clear X;have c3:=b.row.cell 3 s.ak Z;rw[h2]at b6;go_wp2_with fail;refine(jV f c s.ak _ b.cn).mono ?_;rintro e q⟨rfl,l⟩;replace b:=H (b.oz l);clear l;unfold dZ;clear c3;have cF:=(L3 q.heap.size q).alloc (L4 _) (.cells (aY ((c.qH s.ak),none,0)).toArray 53);have be:=H (bj (aT.new q ((c.qH s.ak),none,0)));replace b:=H (b.oz cF);clear cF;go_wp2_with fail;change Calls _ _ #[Value.slice none 0 0,Value.slice (some ⟨q.heap.size,0,none⟩) [(((c.qH s.ak),none,0):cQ)].length 1] (q.alloc (.cells (aY ((c.qH s.ak),none,0)).toArray 53)) _;generalize q.heap.size=NB at be|-;generalize q.alloc (.cells (aY ((c.qH s.ak),none,0)).toArray 53)=w6 at be b|-;refine(cN w6 w.heap.size _ [] (cI.nil _ _) NB 0 1 [((c.qH s.ak),none,0)] be.o (fun y hy=>by rw[Lu.1 hy];exact bF.nil _ _) FE b.ch.size).mono ?_;rintro e w8⟨v',rfl,h1,h2,-⟩;have d9:=H (b.cn.grown h2 (fun k e=>by cases e));have da:=H (b.ch.grown h2 (fun k e=>by cases e));have HL:=H (show aL w8 w.heap.size v' [(c.qH s.ak)]from⟨_,Z,h1⟩);clear h1 h2;go_wp2;go_ret;exact⟨_,Z,JV,by rw[V.o,j.o];exact d9.o,da.o⟩
  by_cases t:c.next<ak
  ·have j:=H (r.trans (by rw[L7 h2,L7 (.inr t)]));have bd:decide (ak<1)=false:=Lf X;have ab:decide (c.next<ak)=true:=Lc t;clear X t;rw[h2]at b6;go_wp2_with fail;refine(aX f c _ b.cn).mono ?_;rintro e w3⟨rfl,l⟩;replace b:=H (b.oz l);clear l;have c3:=b.row.cell 3 s.ak Z;go_wp2_with fail;refine(jV f c s.ak _ b.cn).mono ?_;rintro e q⟨rfl,l⟩;replace b:=H (b.oz l);clear l;unfold dZ;clear c3;have cF:=(L3 q.heap.size q).alloc (L4 _) (.cells (aY ((c.qH s.ak),none,0)).toArray 53);have be:=H (bj (aT.new q ((c.qH s.ak),none,0)));replace b:=H (b.oz cF);clear cF;go_wp2_with fail;change Calls _ _ #[Value.slice none 0 0,Value.slice (some ⟨q.heap.size,0,none⟩) [(((c.qH s.ak),none,0):cQ)].length 1] (q.alloc (.cells (aY ((c.qH s.ak),none,0)).toArray 53)) _;generalize q.heap.size=NB at be|-;generalize q.alloc (.cells (aY ((c.qH s.ak),none,0)).toArray 53)=w6 at be b|-;refine(cN w6 w.heap.size _ [] (cI.nil _ _) NB 0 1 [((c.qH s.ak),none,0)] be.o (fun y hy=>by rw[Lu.1 hy];exact bF.nil _ _) FE b.ch.size).mono ?_;rintro e w8⟨v',rfl,h1,h2,-⟩;have d9:=H (b.cn.grown h2 (fun k e=>by cases e));have da:=H (b.ch.grown h2 (fun k e=>by cases e));have HL:=H (show aL w8 w.heap.size v' [(c.qH s.ak)]from⟨_,Z,h1⟩);clear h1 h2;go_wp2;go_ret;exact⟨_,Z,JV,by rw[V.o,j.o];exact d9.o,da.o⟩
  have H3:=H X;have H4:=H t;have bd:decide (ak<1)=false:=Lf X;have ab:decide (c.next<ak)=false:=Lf t;clear X t;rw[h2]at b6;go_wp2_with fail;refine(aX f c _ b.cn).mono ?_;rintro e w3⟨rfl,l⟩;replace b:=H (b.oz l);clear l;go_wp2_with fail;refine(cU f c now 4 _ b.cn T.st D).mono ?_;rintro e U⟨rfl,i,g⟩;replace b:=H (b.call i g);clear i g;have b5:=H (T.step m.o (T.tr2 (by rw[h2];decide)) 4);have eL:=H (show(c.step now 4).tries<=12 by rw[Cn.A4];exact T.tr2 (by rw[h2];decide));replace r:=H (r.trans (by rw[L7 h2,L5 (by have:=H3.o;have:=H4.o;omega)]));generalize c.step now 4=d2 at b b5 eL r;clear b6 bd ab H3 H4;have c9:=b.cn.cell 9 d2.shut Z;by_cases h5:d2.shut=true
  focus
   have j:=H (r.trans (by rw[L7 h5]));clear r;rw[h5]at c9;go_wp2_with fail;refine(cU f d2 now 5 _ b.cn b5.st D).mono ?_;rintro e U⟨rfl,i,g⟩;replace b:=H (b.call i g);clear i g;have b3:=H (b5.step m.o eL.o 5);generalize d2.step now 5=d3 at b b3 j;have u:=b.row.cell 0 _ Z;have z:=b.row.cell 1 _ Z;have A:=b.row.cell 2 _ Z;have E:=b.row.cell 3 _ Z;have F:=b.row.cell 4 _ Z;have G:=b.row.cell 5 _ Z;have I:=b.row.cell 6 _ Z;have J:=b.row.cell 7 _ Z;have K:=b.row.cell 8 _ Z;have L:=b.row.cell 9 _ Z;have M:=b.row.cell 10 _ Z;have N:=b.row.cell 11 _ Z;have P:=b.row.cell 12 _ Z;go_wp2_with fail;refine(iI f (d3) now s ak a cap _ b.cn b3.o m.o n.o b.bl p).mono ?_;rintro e U⟨rfl,i,g⟩;replace b:=H (b.call i g);clear i g;clear u z A E F G I J K L M N P;have S:=H (b3.go m.o n.o (show ak<=1099511562240 by omega));have bk:=H (Cn.Ok.tail (c:=d3) b3.o m.o n.o ho p.2);generalize Cn.go (d3) now s ak=d5 at b S bk j
  rotate_left 1
  focus
   have h6:d2.shut=false:=by simpa using h5
   have j:=H (r.trans (by rw[L5 h5]));clear r;rw[h6]at c9;clear h5 h6;have u:=b.row.cell 0 _ Z;have z:=b.row.cell 1 _ Z;have A:=b.row.cell 2 _ Z;have E:=b.row.cell 3 _ Z;have F:=b.row.cell 4 _ Z;have G:=b.row.cell 5 _ Z;have I:=b.row.cell 6 _ Z;have J:=b.row.cell 7 _ Z;have K:=b.row.cell 8 _ Z;have L:=b.row.cell 9 _ Z;have M:=b.row.cell 10 _ Z;have N:=b.row.cell 11 _ Z;have P:=b.row.cell 12 _ Z;go_wp2_with fail;refine(iI f (d2) now s ak a cap _ b.cn b5.o m.o n.o b.bl p).mono ?_;rintro e U⟨rfl,i,g⟩;replace b:=H (b.call i g);clear i g;clear u z A E F G I J K L M N P;have S:=H (b5.go m.o n.o (show ak<=1099511562240 by omega));have bk:=H (Cn.Ok.tail (c:=d2) b5.o m.o n.o ho p.2);generalize Cn.go (d2) now s ak=d5 at b S bk j
  all_goals
   have u:=b.row.cell 0 _ Z;have z:=b.row.cell 1 _ Z;have A:=b.row.cell 2 _ Z;have E:=b.row.cell 3 _ Z;have F:=b.row.cell 4 _ Z;have G:=b.row.cell 5 _ Z;have I:=b.row.cell 6 _ Z;have J:=b.row.cell 7 _ Z;have K:=b.row.cell 8 _ Z;have L:=b.row.cell 9 _ Z;have M:=b.row.cell 10 _ Z;have N:=b.row.cell 11 _ Z;have P:=b.row.cell 12 _ Z;go_wp2_with fail;refine(nD f d5 now s off a cap _ b.cn S.1 n.o b.bl ho).mono ?_;rintro e U⟨rfl,i,g⟩;replace b:=H (b.call i g);clear i g;clear u z A E F G I J K L M N P;have bn:=H (S.1.store m.o n.o ho.2);have bo:=H (show(d5.store now s off).tries<=12 by rw[Cn.De,S.2];decide);generalize d5.store now s off=d6 at b bn bo bk j;have u:=b.row.cell 0 _ Z;have z:=b.row.cell 1 _ Z;have A:=b.row.cell 2 _ Z;have E:=b.row.cell 3 _ Z;have F:=b.row.cell 4 _ Z;have G:=b.row.cell 5 _ Z;have I:=b.row.cell 6 _ Z;have J:=b.row.cell 7 _ Z;have K:=b.row.cell 8 _ Z;have L:=b.row.cell 9 _ Z;have M:=b.row.cell 10 _ Z;have N:=b.row.cell 11 _ Z;have P:=b.row.cell 12 _ Z;go_wp2_with fail;refine(oU f d6 now s off a cap _ b.cn bn.o m.o n.o b.bl ho bo.o).mono ?_;rintro e U⟨rfl,i,g⟩;replace b:=H (b.call i g);clear i g;clear u z A E F G I J K L M N P;have cL:=H (bn.qb m.o n.o ho bo.o);generalize d6.qb now s off=d7 at b cL j;go_wp2_with fail;refine(aq f d7 now _ b.cn cL.o m.o).mono ?_;rintro e wz⟨v,rfl,hl,i,g⟩;have HL:=H (show aL wz w.heap.size v _ from aL.base hl b.ch.size);have bu:=H i;have bv:=H (b.ch.trans g);clear hl i g;go_wp2;go_ret;exact⟨_,Z,JV,by rw[V.o,j.o];exact bu.o,bv.o⟩
 have b1:(c.st==2)=false:=Ll.2 h2;have H2:=H h2;clear h2;by_cases t:c.next<ak
 focus
  have j:=H (r.trans (by rw[L5 H2.o,L7 t]));have ab:decide (c.next<ak)=true:=Lc t;clear t r;go_wp2_with fail;refine(aX f c _ b.cn).mono ?_;rintro e w3⟨rfl,l⟩;replace b:=H (b.oz l);clear l;go_wp2_with fail;refine(cK f c _ b.cn).mono ?_;rintro e U⟨rfl,i,g⟩;replace b:=H (b.call i g);clear i g;have b3:=H T.gB;go_wp2_with fail;refine(aq f c.gB now _ b.cn b3.o m.o).mono ?_
 rotate_left 1
 focus
  have j:=H (r.trans (by rw[L5 H2.o,L5 t]));have ab:decide (c.next<ak)=false:=Lf t;clear t r;go_wp2_with fail;refine(aX f c _ b.cn).mono ?_;rintro e w3⟨rfl,l⟩;replace b:=H (b.oz l);clear l;have u:=b.row.cell 0 _ Z;have z:=b.row.cell 1 _ Z;have A:=b.row.cell 2 _ Z;have E:=b.row.cell 3 _ Z;have F:=b.row.cell 4 _ Z;have G:=b.row.cell 5 _ Z;have I:=b.row.cell 6 _ Z;have J:=b.row.cell 7 _ Z;have K:=b.row.cell 8 _ Z;have L:=b.row.cell 9 _ Z;have M:=b.row.cell 10 _ Z;have N:=b.row.cell 11 _ Z;have P:=b.row.cell 12 _ Z;go_wp2_with fail;refine(iI f (c) now s ak a cap _ b.cn T.o m.o n.o b.bl p).mono ?_;rintro e U⟨rfl,i,g⟩;replace b:=H (b.call i g);clear i g;clear u z A E F G I J K L M N P;have S:=H (T.go m.o n.o (show ak<=1099511562240 by omega));have bk:=H (Cn.Ok.tail (c:=c) T.o m.o n.o ho p.2);generalize Cn.go (c) now s ak=d5 at b S bk j;have u:=b.row.cell 0 _ Z;have z:=b.row.cell 1 _ Z;have A:=b.row.cell 2 _ Z;have E:=b.row.cell 3 _ Z;have F:=b.row.cell 4 _ Z;have G:=b.row.cell 5 _ Z;have I:=b.row.cell 6 _ Z;have J:=b.row.cell 7 _ Z;have K:=b.row.cell 8 _ Z;have L:=b.row.cell 9 _ Z;have M:=b.row.cell 10 _ Z;have N:=b.row.cell 11 _ Z;have P:=b.row.cell 12 _ Z;go_wp2_with fail;refine(nD f d5 now s off a cap _ b.cn S.1 n.o b.bl ho).mono ?_;rintro e U⟨rfl,i,g⟩;replace b:=H (b.call i g);clear i g;clear u z A E F G I J K L M N P;have bn:=H (S.1.store m.o n.o ho.2);have bo:=H (show(d5.store now s off).tries<=12 by rw[Cn.De,S.2];decide);generalize d5.store now s off=d6 at b bn bo bk j;have u:=b.row.cell 0 _ Z;have z:=b.row.cell 1 _ Z;have A:=b.row.cell 2 _ Z;have E:=b.row.cell 3 _ Z;have F:=b.row.cell 4 _ Z;have G:=b.row.cell 5 _ Z;have I:=b.row.cell 6 _ Z;have J:=b.row.cell 7 _ Z;have K:=b.row.cell 8 _ Z;have L:=b.row.cell 9 _ Z;have M:=b.row.cell 10 _ Z;have N:=b.row.cell 11 _ Z;have P:=b.row.cell 12 _ Z;go_wp2_with fail;refine(oU f d6 now s off a cap _ b.cn bn.o m.o n.o b.bl ho bo.o).mono ?_;rintro e U⟨rfl,i,g⟩;replace b:=H (b.call i g);clear i g;clear u z A E F G I J K L M N P;have cL:=H (bn.qb m.o n.o ho bo.o);generalize d6.qb now s off=d7 at b cL j;go_wp2_with fail;refine(aq f d7 now _ b.cn cL.o m.o).mono ?_
 all_goals
  rintro e wz⟨v,rfl,hl,i,g⟩;have HL:=H (show aL wz w.heap.size v _ from aL.base hl b.ch.size);have bu:=H i;have bv:=H (b.ch.trans g);clear hl i g;go_wp2;go_ret;exact⟨_,Z,JV,by rw[V.o,j.o];exact bu.o,bv.o⟩
end
section
set_option maxHeartbeats 8000000
set_option maxRecDepth 100000
open Go.RowKit Go.Shelf
theorem wP {s:Sg}(h:s.Ok):aj s=s.s.length+(if s.syn=true\/s.fin=true then 1 else 0):=by
 unfold aj;have:=h.fl.1
 cases h1:s.syn <;> cases h2:s.fin <;> simp_all <;> omega
theorem Cn.FU (c:Cn)(now:Int)(s:Sg):c.stray now s =
 (let a:=if(bU c.st=true/\s.has=true/\s.syn=false)/\c.fM<=aE s.ak c.cf.kc/\aE s.ak c.cf.kc<=c.next then c.go now s (aE s.ak c.cf.kc)else c
  let b:Cn:=if a.st=9/\s.fin=true then { a with per:=.wA now 60 }else a
  (if 0<aj s then b.gB else b).push now):=by
 unfold Cn.stray;dsimp only
 congr 1
 simp only[and_assoc]
theorem lX (s:Sg)(a:Option Addr)(cap:Nat)(w:World)(hs:s.Ok) :
  Calls Tryz.prog 40 #[dZ s a cap] w fun e w'=>e= .returned (aj s)/\Below w.heap.size w w':=by
 have h:=tH s a cap ⟨s.s.toArray⟩ w IL (by have:=hs.Dj;omega);rw[<-wP hs]at h;unfold dZ;exact h
theorem tJ (f:Fp) (c:Cn) (now:Int) (s:Sg) (a:Option Addr) (cap:Nat) (w:World) (h:kf f c w) (ok:c.Ok) (hn:aI now) (hs:s.Ok) (i:bF w a s.bl) (h0:c.st≠0) :
  Calls Tryz.prog 43 #[f.C,now,dZ s a cap] w (dj f w (c.stray now s).2 (c.stray now s).1):=by
 have ey:=H (ok.tr2 h0);have J:=H hn;have V:=H hs;have a2:=h.gl.top;have a3:=h.lt;have S:=H ok;have g:=H (Sw.start (x:=(s,a,cap)) h i);clear h i ok hs hn;unfold dZ;obtain⟨R,X⟩:∃R,R=c.stray now s:=⟨_,Z⟩;rw[<-X];have p:=H (X.trans (Cn.FU c now s));clear X;have r:=bP s.ak c.cf.kc;have a0:=S.fM;obtain⟨ax,bI,b2⟩:=a0;obtain⟨A,hA⟩:∃A,A=if(bU c.st=true/\s.has=true/\s.syn=false)/\c.fM<=aE s.ak c.cf.kc/\aE s.ak c.cf.kc<=c.next then c.go now s (aE s.ak c.cf.kc)else c:=⟨_,Z⟩;have y:=H hA;have bb:=H (show A.Ok/\A.tries<=12 from by rw[hA];split;(have:=S.go J.o V.o (show aE s.ak c.cf.kc<=1099511562240 by omega);exact⟨this.1,by rw[this.2];decide⟩);exact⟨S.o,ey.o⟩);replace p:=H (show R=(let b:Cn:=if A.st=9/\s.fin=true then { A with per:=.wA now 60 }else A;(if 0<aj s then b.gB else b).push now) by rw[p.o,hA]);clear hA;obtain⟨b,n⟩:∃b:Cn,b=if A.st=9/\s.fin=true then { A with per:=.wA now 60 }else A:=⟨_,Z⟩;replace p:=H (show R=(if 0<aj s then b.gB else b).push now by rw[p.o,n]);have HB:=H n;have am:=H (show b.Ok from by rw[n];split;(exact { bb.1 with per:=Al.zv J.o D D });exact bb.1);clear n
 go_enter Tryz.func43,Tryz.ntmps43
 go_upto_region 1 with fail
 change Code.wp _ _ _ _ (w.alloc (.cells (aY (s,a,cap)).toArray 53));generalize w.alloc (.cells (aY (s,a,cap)).toArray 53)=w1 at g|-
 go_cut [21]from 8 to 22 (fun v t=>v=(decide (bU c.st=true/\s.has=true/\s.syn=false):Y)/\t=w1)
 case first =>
  have b6:=g.cn.cell 28 c.st Z;have r7:=g.row.cell 7 s.has Z;have r4:=g.row.cell 4 s.syn Z;by_cases h1:bU c.st=true
  ·have k:dg c.st=true:=h1;have H1:=H h1;clear h1;by_cases h2:s.has=true
   ·by_cases z:s.syn=false
    ·rw[h2]at r7;rw[z]at r4;have T:=H h2;have H3:=H z;clear h2 z;go_wp2_with fail;refine(bS c.st _).mono ?_;rintro e w2⟨rfl,rfl⟩;rw[k];go_wp2_with fail
     go_meet
     case rel=>exact⟨congrArg Value.bool (Lc ⟨H1.o,T.o,H3.o⟩).symm,Z⟩
    have eS:s.syn=true:=by simpa using z
    rw[h2]at r7;rw[eS]at r4;have T:=H h2;have H3:=H z;clear h2 z eS;go_wp2_with fail;refine(bS c.st _).mono ?_;rintro e w2⟨rfl,rfl⟩;rw[k];go_wp2_with fail
    go_meet
    case rel=>exact⟨congrArg Value.bool (Lf (fun h=>H3.o h.2.2)).symm,Z⟩
   have e2:s.has=false:=Jw
   rw[e2]at r7;have T:=H h2;clear h2 e2;go_wp2_with fail;refine(bS c.st _).mono ?_;rintro e w2⟨rfl,rfl⟩;rw[k];go_wp2_with fail
   go_meet
   case rel=>exact⟨congrArg Value.bool (Lf (fun h=>T.o h.2.1)).symm,Z⟩
  have k:dg c.st=false:=by cases q:dg c.st with | false=>rfl | true=>exact absurd q h1
  have H1:=H h1;clear h1;go_wp2_with fail;refine(bS c.st _).mono ?_;rintro e w2⟨rfl,rfl⟩;rw[k];go_wp2_with fail
  go_meet
  case rel=>exact⟨congrArg Value.bool (Lf (fun h=>H1.o h.1)).symm,Z⟩
 case rest =>
  obtain⟨rfl,rfl⟩:=hcut
  go_upto_if 21 with fail
  go_cut []from 7 to 49 (fun t=>Sw f w w.heap.size (s,a,cap) A t)
  case first =>
   by_cases E:bU c.st=true/\s.has=true/\s.syn=false
   ·rw[Lc E];have HP:=H E;clear E;go_wp2_with fail;refine az (fun W:World=>W.cell? ⟨w.heap.size,3,none⟩=some (s.ak:Y)/\W.cell? ⟨f.C,24,none⟩=some (c.cf.kc:Y)) (⟨g.row.cell 3 s.ak Z,g.cn.cell 24 c.cf.kc Z⟩) fun U=>?_;replace g:=H g.drew;generalize wc.drew=Id at g U|-;refine aA 0 1 2 3 ?_;refine aM 4 5 ?_;refine aQ 6 ?_;refine aZ 7 fun Kq K=> ?_;go_simp;refine(df _ _ _).mono ?_;rintro e w3⟨rfl,rfl⟩;go_simp;refine K.out _ _ (⟨g.row.cell 3 s.ak Z,g.cn.cell 24 c.cf.kc Z⟩) ?_;clear K Kq U;refine fun U=>aW ?_;refine aQ 8 ?_;refine ay ?_ _;clear U;obtain⟨ak,L⟩:∃ak,ak=aE s.ak c.cf.kc:=⟨_,Z⟩;rw[<-L]at y r|-;clear L
    skip
    by_cases u:c.fM<=ak
    ·by_cases M:ak<=c.next
     ·have l:=H (show A=c.go now s ak by rw[y.o];exact L7 ⟨HP.o,u,M⟩);have ab:decide (c.fM<=ak)=true:=Lc u;have dc:decide (ak<=c.next)=true:=Lc M;clear u M;go_wp2_with fail;refine(dh f c _ g.cn).mono ?_;rintro e w4⟨rfl,i⟩;replace g:=H (g.oz i);clear i;go_wp2_with fail;refine(aX f c _ g.cn).mono ?_;rintro e w5⟨rfl,i⟩;replace g:=H (g.oz i);clear i;have q0:=g.row.cell 0 _ Z;have q1:=g.row.cell 1 _ Z;have q2:=g.row.cell 2 _ Z;have q3:=g.row.cell 3 _ Z;have q4:=g.row.cell 4 _ Z;have q5:=g.row.cell 5 _ Z;have q6:=g.row.cell 6 _ Z;have q7:=g.row.cell 7 _ Z;have q8:=g.row.cell 8 _ Z;have q9:=g.row.cell 9 _ Z;have a6:=g.row.cell 10 _ Z;have a7:=g.row.cell 11 _ Z;have a9:=g.row.cell 12 _ Z;go_wp2_with fail;refine(iI f c now s ak a cap _ g.cn S.o J.o V.o g.bl r).mono ?_;rintro e w9⟨rfl,m,j⟩;replace g:=H (g.call m j);clear m j;clear q0 q1 q2 q3 q4 q5 q6 q7 q8 q9 a6 a7 a9;go_wp2_with fail
      go_meet
      case rel=>exact g.eq l.o
     have l:=H (show A=c by rw[y.o];exact L5 (fun h=>by have:=h.2.2;omega));have ab:decide (c.fM<=ak)=true:=Lc u;have dc:decide (ak<=c.next)=false:=Lf M;clear u M;go_wp2_with fail;refine(dh f c _ g.cn).mono ?_;rintro e w4⟨rfl,i⟩;replace g:=H (g.oz i);clear i;go_wp2_with fail;refine(aX f c _ g.cn).mono ?_;rintro e w5⟨rfl,i⟩;replace g:=H (g.oz i);clear i;go_wp2_with fail
     go_meet
     case rel=>exact g.eq l.o
    have l:=H (show A=c by rw[y.o];exact L5 (fun h=>by have:=h.2.1;omega));have ab:decide (c.fM<=ak)=false:=Lf u;clear u;go_wp2_with fail;refine(dh f c _ g.cn).mono ?_;rintro e w4⟨rfl,i⟩;replace g:=H (g.oz i);clear i;go_wp2_with fail
    go_meet
    case rel=>exact g.eq l.o
   rw[Lf E];have l:=H (show A=c by rw[y.o];exact L5 (fun h=>E h.1));clear E;go_wp2_with fail
   go_meet
   case rel=>exact g.eq l.o
  case rest =>
   replace g:=H hcut;clear hcut y ax bI b2 r;have b6:=g.cn.cell 28 (.int .i64 A.st) Z;have r5:=g.row.cell 5 s.fin Z
   go_upto_region 5 with fail
   go_cut [57]from 49 to 58 (fun v t=>v=(decide (A.st=9/\s.fin=true):Y)/\t=wc)
   case first =>
    by_cases F:A.st=9
    ·have H6:=H F;rw[F]at b6;clear F;by_cases G:s.fin=true
     ·rw[G]at r5;have H7:=H G;clear G;go_wp2_with fail
      go_meet
      case rel=>exact⟨congrArg Value.bool (Lc ⟨H6.o,H7.o⟩).symm,Z⟩
     have e3:s.fin=false:=by simpa using G
     rw[e3]at r5;have H7:=H G;clear G e3;go_wp2_with fail
     go_meet
     case rel=>exact⟨congrArg Value.bool (Lf (fun h=>H7.o h.2)).symm,Z⟩
    have f5:(A.st==9)=false:=Ll.2 F;have H6:=H F;clear F;go_wp2_with fail
    go_meet
    case rel=>exact⟨congrArg Value.bool (Lf (fun h=>H6.o h.1)).symm,Z⟩
   case rest =>
    obtain⟨rfl,a1⟩:=hcut;subst a1;clear b6 r5
    go_upto_if 57 with fail
    go_cut []from 57 to 63 (fun t=>Sw f w w.heap.size (s,a,cap) b t)
    case first =>
     by_cases q:A.st=9/\s.fin=true
     ·rw[Lc q];have l:=H (show b={ A with per:=.wA now 60 } by rw[HB.o];exact L7 q);clear q;go_wp2_with fail;refine(dR _ _ _).mono ?_;rintro e w7⟨rfl,i⟩;replace g:=H (g.oz i);clear i;have f6:=g.cn.cell 34 (.bool A.per.set) Z;have f7:=g.cn.cell 35 (.int .i64 A.per.since) Z;have f8:=g.cn.cell 36 (.int .i64 A.per.ticks) Z;have f9:=g.cn.free 34;have fa:=g.cn.free 35;have a5:=g.cn.free 36;have av:=H (g.call (((g.cn.set 34 true { A with per:=⟨true,A.per.since,A.per.ticks⟩ } Z Z Z Z Z).set 35 now { A with per:=⟨true,now,A.per.ticks⟩ } Z Z Z Z Z).set 36 (60:Int) { A with per:=.wA now 60 } Z Z Z Z Z) (.Da ((((lh.refl _ _).setCell 34 _).setCell 35 _).setCell 36 _)));go_wp2_with fail
      go_meet
      case rel=>exact av.eq l.o
     rw[Lf q];have l:=H (show b=A by rw[HB.o];exact L5 q);clear q;go_wp2_with fail
     go_meet
     case rel=>exact g.eq l.o
    case rest =>
     replace g:=H hcut;clear hcut HB bb;have q0:=g.row.cell 0 _ Z;have q1:=g.row.cell 1 _ Z;have q2:=g.row.cell 2 _ Z;have q3:=g.row.cell 3 _ Z;have q4:=g.row.cell 4 _ Z;have q5:=g.row.cell 5 _ Z;have q6:=g.row.cell 6 _ Z;have q7:=g.row.cell 7 _ Z;have q8:=g.row.cell 8 _ Z;have q9:=g.row.cell 9 _ Z;have a6:=g.row.cell 10 _ Z;have a7:=g.row.cell 11 _ Z;have a9:=g.row.cell 12 _ Z;go_wp2_with fail;refine(lX s a cap _ V.o).mono ?_;rintro e w8⟨rfl,i⟩;replace g:=H (g.oz i);clear i;clear q0 q1 q2 q3 q4 q5 q6 q7 q8 q9 a6 a7 a9;by_cases I:0<aj s
     ·have N:=H I;have f0:decide (0<aj s)=true:=Lc I;clear I;go_wp2_with fail;refine(cK f b _ g.cn).mono ?_;rintro e w9⟨rfl,m,j⟩;replace g:=H (g.call m j);clear m j;go_wp2_with fail;refine(aq f b.gB now _ g.cn am.gB J.o).mono ?_;rintro e wz⟨v,rfl,P,m,j⟩;have HL:=H (show aL wz w.heap.size v _ from aL.base P g.ch.size);have bu:=H m;have bv:=H (g.ch.trans j);clear P m j;go_wp2;go_ret;exact⟨_,Z,by rw[p.o,L7 N.o];exact HL.o,by rw[p.o,L7 N.o];exact bu.o,bv.o⟩
     have N:=H I;have f0:decide (0<aj s)=false:=Lf I;clear I;go_wp2_with fail;refine(aq f b now _ g.cn am.o J.o).mono ?_;rintro e wz⟨v,rfl,P,m,j⟩;have HL:=H (show aL wz w.heap.size v _ from aL.base P g.ch.size);have bu:=H m;have bv:=H (g.ch.trans j);clear P m j;go_wp2;go_ret;exact⟨_,Z,by rw[p.o,L5 (by have:=N.o;omega)];exact HL.o,by rw[p.o,L5 (by have:=N.o;omega)];exact bu.o,bv.o⟩
end
end Go.Proofs.YtcmncipikdpnbaaGreatDoor
