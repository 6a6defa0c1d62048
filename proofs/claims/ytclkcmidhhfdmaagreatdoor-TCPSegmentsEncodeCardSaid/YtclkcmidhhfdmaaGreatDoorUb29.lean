import Derived.Test.YtclkcmidhhfdmaaGreatDoorUb26
namespace Go.Proofs.YtclkcmidhhfdmaaGreatDoor
open Lib (hid)
section
set_option maxHeartbeats 8000000
set_option maxRecDepth 100000
open Go.RowKit Go.Shelf
def wi (f:Fp)(w:World)(b:Bool)(d:Cn)(e:Ending)(w':World):Prop:=e= .returned b/\CnAt f d w'/\ChgF f w w'
theorem eZ (b:Bx):b.rep.length=0↔b.bl=[]:=by
 rw[Bx.rep_length]
 constructor
 ·intro h;exact List.eq_nil_of_length_eq_zero (by omega)
 intro h;rw[h];rfl
theorem j0 (f:Fp) (c:Cn) (off:Int) (s:List UInt8) (w:World) (h:CnAt f c w) (ok:c.Ok) (ho: -2147483648<=off/\off<=2147483647) (hs:s.length<=1024) :
  Calls Tryz.prog 167 #[.pointer (some ⟨f.C,11,none⟩),off,.string ⟨s.toArray⟩] w (wi f w (c.insB off s) (c.insert off s)):=by
 have HO:=hid ok;have HC:=hid h;have HX:=hid (ChgF.refl f w);have cl:=ok.fend;have hz:(⟨s.toArray⟩:ByteArray).size=s.length:=by simp[ByteArray.size]
 obtain⟨e6,cs⟩:=ho;obtain⟨e7,hf2⟩:=cl;clear h ok;have HB:=hid (show ∃hb:Bool,hb=decide (c.bx.bl≠[])from⟨_,rfl⟩);have c11:=HC.cell 11 f.X rfl
 go_enter Tryz.func167,Tryz.ntmps167
 go_wp2_with fail;refine(cH f.X f.R 0 c.bx _ HC.bx).mono ?_;rintro e w1⟨rfl,rfl⟩;go_wp2_with fail;refine(iF f.X f.R 0 c.bx _ HC.bx HO.bx).mono ?_;rintro e w1⟨ba,bc,rfl,-,-,-,hb⟩;replace HX:=hid (HX.trans (.ofB hb));replace HC:=hid (HC.below hb);clear hb c11;have hrl:c.bx.rep.length<=3:=by rw[Bx.rep_length];omega
 have c15:=HC.cell 15 c.ended rfl;have c16:=HC.cell 16 c.fend rfl;obtain⟨S1,hS1⟩:∃S1,S1=if c.ended=true then s.take (min (max (c.fend-off) 0) s.length).toNat else s:=⟨_,rfl⟩;have bI:=hid hS1;have e8:S1.length<=1024:=by rw[hS1];split;(rw[List.length_take];omega);exact hs
 clear hS1
 go_upto_if 24 with fail
 go_cut [2]from 24 to 36 (fun v2 wx=>v2= .string ⟨S1.toArray⟩/\wx=w1)
 case first =>
  cases he:c.ended with
  | true =>
   rw[he]at c15;have HE:=hid (show S1=s.take (min (max (c.fend-off) 0) s.length).toNat by rw[bI.o,if_pos he]);clear he;go_wp2_with fail
   all_goals
    go_meet
    case rel=>exact⟨by rw[HE.o];rw[ff];rw[List.drop_zero],rfl⟩
  | false =>
   rw[he]at c15;have HE:=hid (show S1=s by rw[bI.o,if_neg (by rw[he];simp)]);clear he;go_wp2_with fail
   go_meet
   case rel=>exact⟨by rw[HE.o],rfl⟩
 case rest =>
  obtain⟨hv2,rfl⟩:=hcut;subst hv2;clear hz c15 c16;have hz1:(⟨S1.toArray⟩:ByteArray).size=S1.length:=by simp[ByteArray.size]
  obtain⟨S2,hS2⟩:∃S2,S2=mo c.ended c.fend off s:=⟨_,rfl⟩;have a9:=hid (show S2=S1.drop (if off<0 then(min (-off) S1.length).toNat else 0) by rw[hS2,bI.o];rfl);have hl2:S2.length<=1024:=by rw[a9.o,List.length_drop];omega
  have HI:=hid hS2;clear hS2
  go_upto_if 38 with fail
  go_cut [1,2]from 38 to 45 (fun v1 v2 wx=>v1=((max off 0:Int):Y)/\v2= .string ⟨S2.toArray⟩/\wx=wc)
  case first =>
   by_cases hn:off<0
   ·have HE:=hid (show S2=S1.drop (min (-off) S1.length).toNat by rw[a9.o,if_pos hn]);have hmx:max off 0=0:=by omega
    go_wp2_with fail
    all_goals
     go_meet
     case rel=>exact⟨by rw[hmx],by rw[HE.o];exact congrArg Value.string (jZ _ _),rfl⟩
   have HE:=hid (show S2=S1 by rw[a9.o,if_neg hn,List.drop_zero]);have hmx:max off 0=off:=by omega
   go_wp2_with fail
   go_meet
   case rel=>exact⟨by rw[hmx],by rw[HE.o],rfl⟩
  case rest =>
   obtain⟨hv1,hv2,rfl⟩:=hcut;subst hv1;subst hv2;clear hz1;have b6:=hid (show c.insBx off s=if S2=[]then c.bx else c.bx.put (max off 0) S2 by unfold Cn.insBx;rw[<-HI.o]);have dT:=hid (HO.insert cs hs)
   go_upto_if 47 with fail
   go_cut []from 47 to 54 (fun wx=>CnAt f (c.insert off s) wx/\ChgF f w wx)
   case first =>
    by_cases hn:S2=[]
    ·have HE:=hid (show c.insert off s=c by unfold Cn.insert;rw[b6.o,if_pos hn]);subst hn;go_wp2_with fail
     go_meet
     case rel=>exact⟨by rw[HE.o];exact HC.o,HX.o⟩
    have HE:=hid (show c.insert off s={ c with bx:=c.bx.put (max off 0) S2 } by unfold Cn.insert;rw[b6.o,if_neg hn])
    obtain⟨x,t,rfl⟩:∃x t,S2=x::t:=by
     cases S2 with
     | nil=>exact absurd rfl hn
     | cons x t=>exact⟨x,t,rfl⟩
    clear hn;have c11:=HC.cell 11 f.X rfl;go_wp2_with fail;refine(ut f.X f.R 0 c.bx (max off 0) ⟨(x::t).toArray⟩ _ HC.bx HO.bx (Nat.zero_le _) (by have:=hl2;simp only[List.length_cons]at this;simp only[ByteArray.size,List.size_toArray,List.length_cons];omega)).mono ?_;rintro e w3⟨rfl,hb3,hc3⟩;have HT:=hid (show CnAt f (c.insert off s) w3/\ChgF f w w3 from⟨by rw[HE.o];exact HC.onX hb3 hc3,HX.trans (.ofX hc3)⟩);clear hb3 hc3;go_wp2_with fail
    go_meet
    case rel=>exact HT.o
   case rest =>
    obtain⟨hc,hch⟩:=hcut;replace HC:=hid hc;replace HX:=hid hch;clear hc hch b6 a9 bI;have c11:=HC.cell 11 f.X rfl;have HV:=hid (show c.insB off s=decide ((c.insBx off s).nx≠c.bx.nx/\c.bx.bl=[]/\(c.insBx off s).bl=[])from rfl);have aa:=hid (show(c.insBx off s).Ok from dT.bx);go_wp2_with fail;refine(cH f.X f.R 0 (c.insBx off s) _ HC.bx).mono ?_;rintro e w4⟨rfl,rfl⟩;by_cases h1:(c.insBx off s).nx=c.bx.nx
    ·have HF:=hid (show c.insB off s=false by rw[HV.o];exact decide_eq_false (fun h=>h.1 h1));have hd:((c.insBx off s).nx==c.bx.nx)=true:=beq_iff_eq.2 h1;go_wp2;go_ret;exact⟨rE HF.symm,HC.o,HX.o⟩
    have hd:((c.insBx off s).nx==c.bx.nx)=false:=beq_eq_false_iff_ne.2 h1;have H1:=hid h1;by_cases h2:c.bx.bl=[]
    ·have H2:=hid h2;have b2:c.bx.rep.length=0:=(eZ c.bx).2 h2;have d4:decide (0<c.bx.rep.length)=false:=by rw[b2];rfl
     clear h2 b2;go_wp2_with fail;refine(iF f.X f.R 0 (c.insBx off s) _ HC.bx aa.o).mono ?_;rintro e w5⟨ba2,bc2,rfl,-,-,-,hb⟩;replace HX:=hid (HX.trans (.ofB hb));replace HC:=hid (HC.below hb);clear hb c11;have HQ:=hid (show decide ((c.insBx off s).rep.length=0)=c.insB off s by rw[HV.o];exact decide_eq_decide.2 ⟨fun h=>⟨H1.o,H2.o,(eZ _).1 h⟩,fun h=>(eZ _).2 h.2.2⟩);have d5:(c.insBx off s).rep.length<=3:=by rw[Bx.rep_length];omega
     go_wp2;go_ret;exact⟨rE (by rw[<-HQ.o];first | rfl | exact decide_eq_decide.2 (by omega) | (simp;done) | (rw[Bool.eq_iff_iff];simp;omega)),HC.o,HX.o⟩
    have HF:=hid (show c.insB off s=false by rw[HV.o];exact decide_eq_false (fun h=>h2 h.2.1));have b2:0<c.bx.rep.length:=Nat.pos_of_ne_zero (fun e=>h2 ((eZ c.bx).1 e));have d4:decide (0<c.bx.rep.length)=true:=decide_eq_true b2;clear h2;go_wp2;go_ret;exact⟨rE HF.symm,HC.o,HX.o⟩
end
section
set_option maxHeartbeats 8000000
set_option maxRecDepth 100000
open Go.RowKit Go.Shelf
structure Sw (f:Fp)(w0:World)(B:Nat)(x:bp)(c:Cn)(W:World):Prop where
 cn:CnAt f c W
 ch:ChgF f w0 W
 row:aQ B x W
 bl:au W x.2.1 x.1.bl
 top:dZ<=B
namespace Sw
variable {f : Fp} {c d : Cn} {w0 W W' : World} {B : Nat} {x : bp}
theorem start (h:CnAt f c W)(hb:au W x.2.1 x.1.bl):Sw f W W.heap.size x c (W.alloc (.cells (aW x).toArray 43)):=by
 have hb0:=(Below.refl W.heap.size W).alloc (Nat.le_refl _) (.cells (aW x).toArray 43);exact⟨h.below hb0,.ofB hb0,aQ.new _ _,hb.keep hb0.size (.below hb0),h.gl.top⟩
theorem bel (h:Sw f w0 B x c W)(hb:Below W.heap.size W W'):Sw f w0 B x c W':=⟨h.cn.below hb,h.ch.trans (.ofB hb),h.row.below hb,h.bl.keep hb.size (.below hb),h.top⟩
theorem call (h:Sw f w0 B x c W)(hc:CnAt f d W')(hch:ChgF f W W'):Sw f w0 B x d W':=⟨hc,h.ch.trans hch,h.row.chgF h.cn hch,h.bl.chgF h.cn hch,h.top⟩
theorem drew (h:Sw f w0 B x c W):Sw f w0 B x c W.drew:=h.bel (Below.refl _ _).drew
theorem eq (h:Sw f w0 B x c W)(e:d=c):Sw f w0 B x d W:=e ▸ h
end Sw
theorem kV (f:Fp) (c:Cn) (now:Int) (s:Sg) (off:Int) (a:Option Addr) (cap:Nat) (w:World) (h:CnAt f c w) (ok:c.Ok) (hs:s.Ok) (hb:au w a s.bl) (ho: -2147483648<=off/\off<=2147483647) :
  Calls Tryz.prog 116 #[f.C,now,cw s a cap,off] w fun e w'=>e= .returned (.tuple #[])/\CnAt f (c.store now s off) w'/\ChgF f w w':=by
 have HO:=hid ok;have a0:=hid hs.slen;have hlt:=h.lt;have hty:=h.tyC;have HS:=hid (Sw.start (x:=(s,a,cap)) h hb);obtain⟨g1,g2,g3,g4,g5,g6,g7,g8,g9,g10,g11,g12,g13⟩:=s;clear h hb ok hs;unfold cw;dsimp only
 cases g13 with
 | nil =>
  have HE:=hid (show c.store now ⟨g1,g2,g3,g4,g5,g6,g7,g8,g9,g10,g11,g12,[]⟩ off=c from if_pos rfl);rw[HE.o]
  go_enter Tryz.func116,Tryz.ntmps116
  go_wp2_with fail
  go_end0
  exact⟨rfl,HS.cn,HS.ch⟩
 | cons x t =>
  have HE:=hid (show c.store now ⟨g1,g2,g3,g4,g5,g6,g7,g8,g9,g10,g11,g12,x::t⟩ off=if ia c.st=true then(if c.insB off (x::t)=true then(c.insert off (x::t)).ackSoon now else(c.insert off (x::t)).ackNow)else c.ackNow from if_neg (List.cons_ne_nil x t));rw[HE.o];dsimp only at a0
  cases hc:ia c.st with
  | false =>
   rw[if_neg (by simp)]
   go_enter Tryz.func116,Tryz.ntmps116
   go_wp2_with fail;change Code.wp _ _ _ _ (w.alloc (.cells (aW (⟨g1,g2,g3,g4,g5,g6,g7,g8,g9,g10,g11,g12,x::t⟩,a,cap)).toArray 43));generalize w.alloc (.cells (aW (⟨g1,g2,g3,g4,g5,g6,g7,g8,g9,g10,g11,g12,x::t⟩,a,cap)).toArray 43)=w1 at HS|-;refine bC (fun W:World=>W.cell? ⟨f.C,28,none⟩=some (c.st:Y)/\W.cell? ⟨w.heap.size,12,none⟩=some (.string ⟨(x::t).toArray⟩)) (⟨HS.cn.cell 28 c.st rfl,HS.row.cell 12 (.string ⟨(x::t).toArray⟩) rfl⟩) fun hZ=>?_;replace HS:=hid HS.drew;generalize w1.drew=w2 at HS hZ|-;refine aB 0 1 2 3 ?_;refine aX 4 fun Kq hKq=> ?_;go_simp;refine(bA c.st _).mono ?_;rintro e w3⟨rfl,rfl⟩;rw[hc];go_simp;refine hKq.out _ _ (⟨HS.cn.cell 28 c.st rfl,HS.row.cell 12 (.string ⟨(x::t).toArray⟩) rfl⟩) ?_;clear hKq Kq hZ;refine fun hZ=>aT ?_;refine aO 5 ?_;refine aV 6 ?_;refine aV 7 ?_;refine aV 8 ?_;refine aV 9 ?_;refine aV 10 ?_;refine aV 11 ?_;refine aV 12 ?_;refine aK 13 14 ?_;refine az ?_ _;clear hZ;go_wp2_with fail;refine(br f c _ HS.cn).mono ?_;rintro e w5⟨rfl,hc5,hch⟩;replace HS:=hid (HS.call hc5 hch);clear hc5 hch;go_wp2_with fail
   go_end0
   exact⟨rfl,HS.cn,HS.ch⟩
  | true =>
   rw[if_pos rfl]
   cases hi:c.insB off (x::t)with
   | true =>
    rw[if_pos rfl]
    go_enter Tryz.func116,Tryz.ntmps116
    go_wp2_with fail;change Code.wp _ _ _ _ (w.alloc (.cells (aW (⟨g1,g2,g3,g4,g5,g6,g7,g8,g9,g10,g11,g12,x::t⟩,a,cap)).toArray 43));generalize w.alloc (.cells (aW (⟨g1,g2,g3,g4,g5,g6,g7,g8,g9,g10,g11,g12,x::t⟩,a,cap)).toArray 43)=w1 at HS|-;refine bC (fun W:World=>W.cell? ⟨f.C,28,none⟩=some (c.st:Y)/\W.cell? ⟨w.heap.size,12,none⟩=some (.string ⟨(x::t).toArray⟩)) (⟨HS.cn.cell 28 c.st rfl,HS.row.cell 12 (.string ⟨(x::t).toArray⟩) rfl⟩) fun hZ=>?_;replace HS:=hid HS.drew;generalize w1.drew=w2 at HS hZ|-;refine aB 0 1 2 3 ?_;refine aX 4 fun Kq hKq=> ?_;go_simp;refine(bA c.st _).mono ?_;rintro e w3⟨rfl,rfl⟩;rw[hc];go_simp;refine hKq.out _ _ (⟨HS.cn.cell 28 c.st rfl,HS.row.cell 12 (.string ⟨(x::t).toArray⟩) rfl⟩) ?_;clear hKq Kq hZ;refine fun hZ=>aT ?_;refine aB 5 6 7 8 ?_;refine aK 9 10 ?_;refine aO 11 ?_;refine aX 12 fun Kq hKq=> ?_;go_simp;refine(j0 f c off (x::t) _ HS.cn HO.o ho (by have:=a0.o;omega)).mono ?_;rintro e w4⟨rfl,hc4,hch⟩;rw[hi];have a5:=hid (HS.call hc4 hch);clear hc4 hch HS;go_simp;refine hKq.out _ _ (⟨a5.cn.cell 28 c.st rfl,a5.row.cell 12 (.string ⟨(x::t).toArray⟩) rfl⟩) ?_;clear hKq Kq hZ;refine fun hZ=>aT ?_;refine aK 13 14 ?_;refine az ?_ _;clear hZ;go_wp2_with fail;refine(mQ f (c.insert off (x::t)) now _ a5.cn).mono ?_;rintro e w5⟨rfl,hc5,hch⟩;replace a5:=hid (a5.call hc5 hch);clear hc5 hch;go_wp2_with fail
    go_end0
    exact⟨rfl,a5.cn,a5.ch⟩
   | false =>
    rw[if_neg (by simp)]
    go_enter Tryz.func116,Tryz.ntmps116
    go_wp2_with fail;change Code.wp _ _ _ _ (w.alloc (.cells (aW (⟨g1,g2,g3,g4,g5,g6,g7,g8,g9,g10,g11,g12,x::t⟩,a,cap)).toArray 43));generalize w.alloc (.cells (aW (⟨g1,g2,g3,g4,g5,g6,g7,g8,g9,g10,g11,g12,x::t⟩,a,cap)).toArray 43)=w1 at HS|-;refine bC (fun W:World=>W.cell? ⟨f.C,28,none⟩=some (c.st:Y)/\W.cell? ⟨w.heap.size,12,none⟩=some (.string ⟨(x::t).toArray⟩)) (⟨HS.cn.cell 28 c.st rfl,HS.row.cell 12 (.string ⟨(x::t).toArray⟩) rfl⟩) fun hZ=>?_;replace HS:=hid HS.drew;generalize w1.drew=w2 at HS hZ|-;refine aB 0 1 2 3 ?_;refine aX 4 fun Kq hKq=> ?_;go_simp;refine(bA c.st _).mono ?_;rintro e w3⟨rfl,rfl⟩;rw[hc];go_simp;refine hKq.out _ _ (⟨HS.cn.cell 28 c.st rfl,HS.row.cell 12 (.string ⟨(x::t).toArray⟩) rfl⟩) ?_;clear hKq Kq hZ;refine fun hZ=>aT ?_;refine aB 5 6 7 8 ?_;refine aK 9 10 ?_;refine aO 11 ?_;refine aX 12 fun Kq hKq=> ?_;go_simp;refine(j0 f c off (x::t) _ HS.cn HO.o ho (by have:=a0.o;omega)).mono ?_;rintro e w4⟨rfl,hc4,hch⟩;rw[hi];have a5:=hid (HS.call hc4 hch);clear hc4 hch HS;go_simp;refine hKq.out _ _ (⟨a5.cn.cell 28 c.st rfl,a5.row.cell 12 (.string ⟨(x::t).toArray⟩) rfl⟩) ?_;clear hKq Kq hZ;refine fun hZ=>aT ?_;refine aK 13 14 ?_;refine az ?_ _;clear hZ;go_wp2_with fail;refine(br f (c.insert off (x::t)) _ a5.cn).mono ?_;rintro e w5⟨rfl,hc5,hch⟩;replace a5:=hid (a5.call hc5 hch);clear hc5 hch;go_wp2_with fail
    go_end0
    exact⟨rfl,a5.cn,a5.ch⟩
def Cn.finA (c:Cn)(s:Sg)(off:Int):Cn:=if s.fin=true/\ao c.st=true/\c.ended=false/\c.bx.nx<=off+s.s.length then { c with ended:=true,fend:=off+s.s.length }else c
theorem Cn.finS_eq (c:Cn)(now:Int)(s:Sg)(off:Int):c.finS now s off=if(c.finA s off).reached=true/\(c.finA s off).over=false then({ c.finA s off with over:=true }.step now 6).ackNow else c.finA s off:=rfl
theorem Cn.finA_tries (c:Cn)(s:Sg)(off:Int):(c.finA s off).tries=c.tries:=by unfold Cn.finA;split <;> rfl
theorem Cn.Ok.finA {c:Cn}(h:c.Ok){s:Sg}{off:Int}(hs:(s.s.length:Int)<=1024-8*s.bl.length)(ho: -2147483648<=off/\off<=2147483647):(c.finA s off).Ok:=by
 unfold Cn.finA;split
 ·exact { h with fend:=by show _<=off+(s.s.length:Int)/\off+(s.s.length:Int)<=_;omega }
 exact h
theorem ll (f:Fp) (c:Cn) (now:Int) (s:Sg) (off:Int) (a:Option Addr) (cap:Nat) (w:World) (h:CnAt f c w) (ok:c.Ok) (hn:aI now) (hs:s.Ok) (hb:au w a s.bl) (ho: -2147483648<=off/\off<=2147483647) (ht:c.tries<=12) :
  Calls Tryz.prog 117 #[f.C,now,cw s a cap,off] w fun e w'=>e= .returned (.tuple #[])/\CnAt f (c.finS now s off) w'/\ChgF f w w':=by
 have HO:=hid ok;have a0:=hid hs.slen;have hst:=ok.st;have hz:(⟨s.s.toArray⟩:ByteArray).size=s.s.length:=by simp[ByteArray.size]
 have hlt:=h.lt;have HN:=hid hn;have hsl:=hs.slen;have HT:=hid ht;have HS:=hid (Sw.start (x:=(s,a,cap)) h hb);clear h hb ok hs hn ht;unfold cw;have b3:=hid (Cn.finS_eq c now s off);obtain⟨d,hd⟩:∃d,d=c.finA s off:=⟨_,rfl⟩;rw[<-hd]at b3;have HD:=hid hd;have b4:=hid (show d.Ok/\d.tries<=12 from hd ▸ ⟨HO.finA a0.o ho,Cn.finA_tries c s off ▸ HT.o⟩);clear hd
 go_enter Tryz.func117,Tryz.ntmps117
 go_upto_region 2 with fail
 change Code.wp _ _ _ _ (w.alloc (.cells (aW (s,a,cap)).toArray 43));generalize w.alloc (.cells (aW (s,a,cap)).toArray 43)=w1 at HS|-
 go_cut [40]from 14 to 41 (fun v40 wx=>v40=(decide (s.fin=true/\ao c.st=true/\c.ended=false/\c.bx.nx<=off+s.s.length):Y)/\wx=w1)
 case first =>
  have c5:=HS.row.cell 5 s.fin rfl;by_cases hfin:s.fin=true
  ·rw[hfin]at c5;have HF:=hid hfin;clear hfin;have e9:=HS.cn.cell 28 c.st rfl;by_cases hc:ao c.st=true
   ·have hc2:ia c.st=true:=hc;have b8:=hid hc;clear hc;have c15:=HS.cn.cell 15 c.ended rfl;by_cases he:c.ended=false
    ·rw[he]at c15;have b9:=hid (show c.ended=false from he);clear he;have c11:=HS.cn.cell 11 f.X rfl;have hnx:=HO.nxN;have d6:=Int.le_trans HO.bx.rd0 HO.bx.rdnx;by_cases hle:c.bx.nx<=off+s.s.length
     ·have hd:decide (c.bx.nx<=off+s.s.length)=true:=decide_eq_true hle;clear hle;go_wp2_with fail;refine(bA c.st _).mono ?_;rintro e w3⟨rfl,rfl⟩;rw[hc2];go_wp2_with fail;refine(cH f.X f.R 0 c.bx _ HS.cn.bx).mono ?_;rintro e w4⟨rfl,rfl⟩;have bb:=hid (decide_eq_true_iff.1 hd);go_wp2_with fail
      go_meet
      case rel=>exact⟨congrArg Value.bool (decide_eq_true ⟨HF.o,b8.o,b9.o,bb.o⟩).symm,rfl⟩
     have hd:decide (c.bx.nx<=off+s.s.length)=false:=decide_eq_false hle;clear hle;go_wp2_with fail;refine(bA c.st _).mono ?_;rintro e w3⟨rfl,rfl⟩;rw[hc2];go_wp2_with fail;refine(cH f.X f.R 0 c.bx _ HS.cn.bx).mono ?_;rintro e w4⟨rfl,rfl⟩;have bb:=hid (decide_eq_false_iff_not.1 hd);go_wp2_with fail
     go_meet
     case rel=>exact⟨congrArg Value.bool (decide_eq_false (fun h=>absurd h.2.2.2 (Int.not_le.2 bb.o))).symm,rfl⟩
    have c3:c.ended=true:=by simpa using he
    rw[c3]at c15;have b9:=hid he;clear he c3;go_wp2_with fail;refine(bA c.st _).mono ?_;rintro e w3⟨rfl,rfl⟩;rw[hc2];go_wp2_with fail
    go_meet
    case rel=>exact⟨congrArg Value.bool (decide_eq_false (fun h=>b9.o h.2.2.1)).symm,rfl⟩
   have hc2:ia c.st=false:=by simpa[ao,ia]using hc
   have b8:=hid hc;clear hc;go_wp2_with fail;refine(bA c.st _).mono ?_;rintro e w3⟨rfl,rfl⟩;rw[hc2];go_wp2_with fail
   go_meet
   case rel=>exact⟨congrArg Value.bool (decide_eq_false (fun h=>b8.o h.2.1)).symm,rfl⟩
  have ab:s.fin=false:=by simpa using hfin
  rw[ab]at c5;have HF:=hid hfin;clear hfin ab;go_wp2_with fail
  go_meet
  case rel=>exact⟨congrArg Value.bool (decide_eq_false (fun h=>HF.o h.1)).symm,rfl⟩
 case rest =>
  obtain⟨rfl,rfl⟩:=hcut
  go_upto_if 40 with fail
  go_cut []from 40 to 50 (fun wx=>Sw f w w.heap.size (s,a,cap) d wx)
  case first =>
   by_cases hp:s.fin=true/\ao c.st=true/\c.ended=false/\c.bx.nx<=off+s.s.length
   ·rw[decide_eq_true hp];have HE:=hid (show d={ c with ended:=true,fend:=off+s.s.length } by rw[HD.o];exact if_pos hp);have f15:=HS.cn.free 15;have f16:=HS.cn.free 16;have c15:=HS.cn.cell 15 c.ended rfl;have c16:=HS.cn.cell 16 c.fend rfl;clear hp;go_wp2_with fail
    go_meet
    case rel=>exact(HS.call ((HS.cn.set 15 _ { c with ended:=true } rfl rfl rfl rfl rfl).set 16 _ { c with ended:=true,fend:=off+s.s.length } rfl rfl rfl rfl rfl) (.ofC (((Chg.refl _ _).setCell 15 _).setCell 16 _))).eq HE.o
   rw[decide_eq_false hp];have HE:=hid (show d=c by rw[HD.o];exact if_neg hp);clear hp;go_wp2_with fail
   go_meet
   case rel=>exact HS.eq HE.o
  case rest =>
   replace HS:=hid hcut;clear hcut HD
   cases hr:d.reached with
   | false =>
    go_wp2_with fail;refine(bw f d _ HS.cn).mono ?_;rintro e w3⟨rfl,hb⟩;replace HS:=hid (HS.bel hb);rw[hr];clear hb;go_wp2_with fail
    go_end0
    exact⟨rfl,by rw[b3.o,if_neg (by rw[hr];rintro⟨h,-⟩;cases h)];exact HS.cn,HS.ch⟩
   | true =>
    cases hv:d.over with
    | true =>
     go_wp2_with fail;refine(bw f d _ HS.cn).mono ?_;rintro e w3⟨rfl,hb⟩;replace HS:=hid (HS.bel hb);rw[hr];clear hb;have c17:=HS.cn.cell 17 (.bool d.over) rfl;rw[hv]at c17;go_wp2_with fail
     go_end0
     exact⟨rfl,by rw[b3.o,if_neg (by rw[hv];rintro⟨-,h⟩;cases h)];exact HS.cn,HS.ch⟩
    | false =>
     go_wp2_with fail;refine(bw f d _ HS.cn).mono ?_;rintro e w3⟨rfl,hb⟩;replace HS:=hid (HS.bel hb);rw[hr];clear hb;have c17:=HS.cn.cell 17 (.bool d.over) rfl;have f17:=HS.cn.free 17;rw[hv]at c17;have bd:=hid (HS.call (HS.cn.set 17 true { d with over:=true } rfl rfl rfl rfl rfl) (.ofC ((Chg.refl _ _).setCell 17 _)));have HST:=hid b4.1.st;clear HS;go_wp2_with fail;refine(bz f { d with over:=true } now 6 _ bd.cn HST.o (by decide)).mono ?_;rintro e w5⟨rfl,hc5,hch⟩;replace HS:=hid (bd.call hc5 hch);clear hc5 hch c17 f17 bd;go_wp2_with fail;refine(br f _ _ HS.cn).mono ?_;rintro e w6⟨rfl,hc6,hch⟩;replace HS:=hid (HS.call hc6 hch);clear hc6 hch;go_wp2_with fail
     go_end0
     exact⟨rfl,by rw[b3.o,if_pos ⟨hr,hv⟩];exact HS.cn,HS.ch⟩
end
section
set_option maxHeartbeats 8000000
set_option maxRecDepth 100000
open Go.RowKit Go.Shelf
theorem oC {e n:Int}{L:List Sp}(h:aH e L=true)(hm:∀i,af i L->i<n):2*(L.length:Int)<=max 0 (n-e):=by
 induction L generalizing e with
 | nil=>simp;omega
 | cons x l ih =>
  obtain⟨⟨h0,h1,h2,-⟩,h3⟩:=aA.1 h;have h4:=ih h3 (fun i hi=>hm i (mem_cons.2 (.inr hi)));have h5:=hm (x.2-1) (mem_cons.2 (.inl ⟨by omega,by omega⟩));rw[List.length_cons];omega
theorem Cn.Ok.sklen {c:Cn}(h:c.Ok):(c.sc.sk.length:Int)<=549755813889:=by
 have:=oC (n:=c.next) h.sc.csk (fun i hi=>(h.sc.msk i hi).2);have:=h.una;omega
def xd (iss:Int)(b:Sp):Sp:=(aD b.1 iss,aD b.2 iss)
def iM (sacks:Bool)(next:Int)(x:Sp):Bool:=sacks&&decide (1<=x.1/\x.1<x.2/\x.2<=next)
theorem rT (sacks:Bool)(next iss:Int)(bl:List Sp)(k:Nat)(hk:k<bl.length) :
  ej sacks next iss (bl.take (k+1))=if iM sacks next (xd iss bl[k])=true then ej sacks next iss (bl.take k)++[xd iss bl[k]]else ej sacks next iss (bl.take k):=by
 unfold ej;rw[List.take_succ_eq_append_getElem hk,List.map_append,List.filter_append];show _++List.filter _ [xd iss bl[k]]=_;rw[List.filter_cons];show _++(if iM sacks next (xd iss bl[k])=true then _ else _)=_;split
 ·rfl
 rw[List.filter_nil,List.append_nil]
theorem oD (sacks:Bool)(next iss:Int)(bl:List Sp):(ej sacks next iss bl).length<=bl.length:=by
 unfold ej;refine Nat.le_trans (List.length_filter_le _ _) ?_;rw[List.length_map];exact Nat.le_refl _
theorem rU (ack:Int)(L:List Sp)(k:Nat)(hk:k<L.length):gz ack (L.take (k+1))=gz ack (L.take k)+max 0 (min L[k].2 ack-L[k].1):=by
 rw[List.take_succ_eq_append_getElem hk];generalize L.take k=T
 induction T with
 | nil=>simp[gz]
 | cons y T ih=>simp only[List.cons_append,gz,ih];omega
theorem mY {ack e:Int}{L:List Sp}(h:aH e L=true):∀k,0<=gz ack (L.take k)/\gz ack (L.take k)<=max 0 (1099511627776-e):=by
 induction L generalizing e with
 | nil=>intro k;simp[gz];omega
 | cons x l ih =>
  obtain⟨⟨h0,h1,h2,h3⟩,h4⟩:=aA.1 h;intro k
  cases k with
  | zero=>simp[gz];omega
  | succ k =>
   have:=ih h4 k;rw[List.take_succ_cons];simp only[gz];omega
theorem oE {w:World}{base n cap:Nat}{a:Option Addr}{L:List Sp}(h:aG w base (.slice a n cap) L)(hs:L.length<=1099511627776):SpAt w w.heap.size a L:=by
 obtain⟨a',cap',hv,hc,-⟩:=h.at hs
 cases hv
 exact hc
theorem pL {e:Int}{L:List Sp}(h:aH e L=true){x:Sp}(hx:x∈L):0<=x.1/\x.1<x.2/\x.2<=1099511627776:=by
 induction L generalizing e with
 | nil=>cases hx
 | cons y l ih =>
  obtain⟨⟨h0,_,h2,h3⟩,h4⟩:=aA.1 h
  rcases List.mem_cons.1 hx with rfl | hx
  ·exact⟨h0,h2,h3⟩
  exact ih h4 hx
theorem py {s:Sc}(h:s.Ok){ack:Int}{R:List Sp}(ha: -2147483648<=ack/\ack<=2147483647): -3298534883328<=s.ackN ack R/\s.ackN ack R<=3298534883328:=by
 unfold Sc.ackN;split
 ·rename_i hb;have h1:=aL h.csk;have h2:=(h.acked ack R).csk;unfold Sc.acked at h2;rw[if_pos hb]at h2;have h3:=aL h2;have:=h.u0;have:=h.un;have:=h.n40;omega
 omega
theorem oF (f:Fp) (c:Cn) (ack:Int) (bl:List Sp) (a:Option Addr) (cap:Nat) (w:World) (h:CnAt f c w) (ok:c.Ok) (hb:au w a bl) (hl:bl.length<=3) (ha: -2147483648<=ack/\ack<=2147483647) :
  Calls Tryz.prog 158 #[f.C,c.cf.iss,ack,.slice a bl.length cap] w fun e w'=>e= .returned (c.repN ack bl)/\CnAt f (c.report ack bl) w'/\ChgF f w w':=by
 have HO:=hid ok;have hgt:=h.gl.top;have HC:=hid h;have HX:=hid (ChgF.refl f w);have HB:=hid hb;clear h hb ok
 go_enter Tryz.func158,Tryz.ntmps158
 go_wp2_with fail
 go_loopg [9,20] bl.length (fun g v9 kv wr=>∃k:Nat,kv=((k:Int):Y)/\g+k=bl.length/\Below w.heap.size w wr/\aG wr w.heap.size v9 (ej c.sacks c.next c.cf.iss (bl.take k)))
 case atStart=>exact⟨0,rfl,rfl,Below.refl _ _,aG.nil _ _⟩
 case round =>
  obtain⟨k,rfl,hg,hb,ho⟩:=hrel;have a4:=hid hb;have HOW:=hid ho;clear hb ho;by_cases hk:k<bl.length
  ·obtain⟨b,be,rfl,hbl,hcs⟩:=(HB.keep a4.size (.below a4.o)).1.cells (by omega);obtain⟨d0,d1⟩:=hcs k hk;clear hcs;have d7:(k:Int)<(bl.length:Int):=by omega
   have a6:=hid (rT c.sacks c.next c.cf.iss bl k hk);have c4:=hid (show(ej c.sacks c.next c.cf.iss (bl.take k)).length<=3 from Nat.le_trans (oD _ _ _ _) (by rw[List.length_take];omega));generalize bl[k]=x at d0 d1 a6;generalize ej c.sacks c.next c.cf.iss (bl.take k)=TL at HOW a6 c4;obtain⟨x1,x2⟩:=x;dsimp only at d0 d1;go_wp2_with fail
   go_upto_region 5 with fail
   have hb1:=(((Below.refl wr.heap.size wr).alloc (Nat.le_refl _) (.cells #[x1,x2] 92)).alloc (by simp) (.cells #[(aD x1 c.cf.iss),(aD x2 c.cf.iss)] 92)).drew;have a1:=hid (a4.trans (hb1.mono a4.size));have aF:=hid (HOW.bel hb1);clear hb1;have e0:=(At.new (B:=wr.heap.size+1) (W:=wr.alloc (.cells #[x1,x2] 92)) (i:=0) (v:=.int .i64 (aD x1 c.cf.iss)) (vs:= #[(aD x1 c.cf.iss),(aD x2 c.cf.iss)]) 92 (by simp) rfl).1;have e1:=(At.new (B:=wr.heap.size+1) (W:=wr.alloc (.cells #[x1,x2] 92)) (i:=1) (v:=.int .i64 (aD x2 c.cf.iss)) (vs:= #[(aD x1 c.cf.iss),(aD x2 c.cf.iss)]) 92 (by simp) rfl).1;have a2:=hid e1;have a3:=hid e0;clear e0 e1;have hsl:wr.heap.size+1<(((wr.alloc (.cells #[x1,x2] 92)).alloc (.cells #[(aD x1 c.cf.iss),(aD x2 c.cf.iss)] 92)).drew).heap.size:=by simp
   have a0:=hid hsl;clear hsl
   go_cut [12]from 24 to 33 (fun v12 wx=>v12= .pointer (some ⟨wr.heap.size+1,0,none⟩)/\wx=((wr.alloc (.cells #[x1,x2] 92)).alloc (.cells #[(aD x1 c.cf.iss),(aD x2 c.cf.iss)] 92)).drew)
   case first =>
    go_region_with (first | (go_at_call 106;refine(dA _ _ _).mono ?_;rintro e w5⟨rfl,rfl⟩))
    all_goals
     go_wp2_with fail
     go_meet
     exact⟨rfl,rfl⟩
   case rest =>
    obtain⟨rfl,rfl⟩:=hcut;replace a3:=hid (show(((wr.alloc (.cells #[x1,x2] 92)).alloc (.cells #[(aD x1 c.cf.iss),(aD x2 c.cf.iss)] 92)).drew).cell? ⟨wr.heap.size+1,0,none⟩=some (aD x1 c.cf.iss:Y)from a3.o);replace a2:=hid (show(((wr.alloc (.cells #[x1,x2] 92)).alloc (.cells #[(aD x1 c.cf.iss),(aD x2 c.cf.iss)] 92)).drew).cell? ⟨wr.heap.size+1,1,none⟩=some (aD x2 c.cf.iss:Y)from a2.o);have hbase:w.heap.size<=wr.heap.size:=a4.size;generalize ((wr.alloc (.cells #[x1,x2] 92)).alloc (.cells #[(aD x1 c.cf.iss),(aD x2 c.cf.iss)] 92)).drew=w1 at a1 aF a3 a2 a0|-;generalize wr.heap.size=N1 at hbase a0 a3 a2|-;clear a4 HOW d0 d1 hbl;have hy1:=bH x1 c.cf.iss;have hy2:=bH x2 c.cf.iss;replace a6:=hid (show ej c.sacks c.next c.cf.iss (bl.take (k+1))=if iM c.sacks c.next (aD x1 c.cf.iss,aD x2 c.cf.iss)=true then TL++[(aD x1 c.cf.iss,aD x2 c.cf.iss)]else TL from a6.o);generalize aD x1 c.cf.iss=y1 at a3 a2 a6 hy1;generalize aD x2 c.cf.iss=y2 at a2 a6 hy2;have hun:=HO.una;obtain⟨al,am,av⟩:=hun
    go_upto_region 6 with fail
    go_cut [55]from 33 to 56 (fun v55 wx=>v55=(iM c.sacks c.next (y1,y2):Y)/\Below w.heap.size w wx/\aG wx w.heap.size u9 TL/\wx.cell? ⟨N1+1,0,none⟩=some (y1:Y)/\wx.cell? ⟨N1+1,1,none⟩=some (y2:Y)/\N1+1<wx.heap.size)
    case first =>
     by_cases hs:c.sacks=true
     ·by_cases h1:1<=y1
      focus
       by_cases h2:y1<y2
       ·by_cases h3:y2<=c.next
        ·have HQ:=hid (show true=iM c.sacks c.next (y1,y2) by unfold iM;rw[hs,Bool.true_and];exact(decide_eq_true ⟨h1,h2,h3⟩).symm);refine bC (fun W:World=>W.cell? ⟨f.C,8,none⟩=some (c.sacks:Y)/\W.cell? ⟨N1+1,0,none⟩=some (y1:Y)/\W.cell? ⟨N1+1,1,none⟩=some (y2:Y)) (⟨(HC.below a1.o).cell 8 c.sacks rfl,a3.o,a2.o⟩) fun hZ=>?_;have hb:=(Below.refl w1.heap.size w1).drew;replace a3:=hid ((hb.cell (p:=⟨N1+1,0,none⟩) a0.o).trans a3.o);replace a2:=hid ((hb.cell (p:=⟨N1+1,1,none⟩) a0.o).trans a2.o);replace a0:=hid (Nat.lt_of_lt_of_le a0.o hb.size);replace a1:=hid (a1.trans (hb.mono a1.size));replace aF:=hid (aF.bel hb);clear hb;generalize w1.drew=w2 at a3 a2 a0 a1 aF hZ|-;refine aK 0 1 ?_;refine aO 2 ?_;refine aO 3 (v:=.bool true) ?_ (hy:=by intro w hSw;(obtain⟨z0,z1,z2⟩:=hSw);rw[hs]at z0;go_simp);refine aK 4 5 ?_;refine aO 6 ?_;refine aO 7 (v:=.bool true) ?_ (hy:=by intro w hSw;(obtain⟨z0,z1,z2⟩:=hSw);go_simp;(try first | omega | (rw[decide_eq_true_iff];omega)));refine aB 8 9 10 11 ?_;refine aK 12 13 ?_;refine aO 14 (v:=.bool true) ?_ (hy:=by intro w hSw;(obtain⟨z0,z1,z2⟩:=hSw);go_simp;(try first | omega | (rw[decide_eq_true_iff];omega)));refine aB 15 16 17 18 ?_;refine aO 19 ?_;refine aX 20 fun Kq hKq=> ?_;go_simp;refine(aU f c _ (HC.below a1.o)).mono ?_;rintro e w7⟨rfl,hb⟩;replace a3:=hid ((hb.cell (p:=⟨N1+1,0,none⟩) a0.o).trans a3.o);replace a2:=hid ((hb.cell (p:=⟨N1+1,1,none⟩) a0.o).trans a2.o);replace a0:=hid (Nat.lt_of_lt_of_le a0.o hb.size);replace a1:=hid (a1.trans (hb.mono a1.size));replace aF:=hid (aF.bel hb);clear hb;go_simp;refine hKq.out _ _ (⟨(HC.below a1.o).cell 8 c.sacks rfl,a3.o,a2.o⟩) ?_;clear hKq Kq hZ;refine fun hZ=>aT ?_;refine aO 21 (v:=.bool true) ?_ (hy:=by intro w hSw;(obtain⟨z0,z1,z2⟩:=hSw);go_simp;(try first | omega | (rw[decide_eq_true_iff];omega)));refine aO 22 ?_;refine az ?_ _;clear hZ;go_wp2_with fail
         go_meet
         case rel=>exact⟨congrArg Value.bool (HQ.o),a1.o,aF.o,a3.o,a2.o,a0.o⟩
        have HQ:=hid (show false=iM c.sacks c.next (y1,y2) by unfold iM;rw[hs,Bool.true_and];exact(decide_eq_false (fun h=>h3 h.2.2)).symm);refine bC (fun W:World=>W.cell? ⟨f.C,8,none⟩=some (c.sacks:Y)/\W.cell? ⟨N1+1,0,none⟩=some (y1:Y)/\W.cell? ⟨N1+1,1,none⟩=some (y2:Y)) (⟨(HC.below a1.o).cell 8 c.sacks rfl,a3.o,a2.o⟩) fun hZ=>?_;have hb:=(Below.refl w1.heap.size w1).drew;replace a3:=hid ((hb.cell (p:=⟨N1+1,0,none⟩) a0.o).trans a3.o);replace a2:=hid ((hb.cell (p:=⟨N1+1,1,none⟩) a0.o).trans a2.o);replace a0:=hid (Nat.lt_of_lt_of_le a0.o hb.size);replace a1:=hid (a1.trans (hb.mono a1.size));replace aF:=hid (aF.bel hb);clear hb;generalize w1.drew=w2 at a3 a2 a0 a1 aF hZ|-;refine aK 0 1 ?_;refine aO 2 ?_;refine aO 3 (v:=.bool true) ?_ (hy:=by intro w hSw;(obtain⟨z0,z1,z2⟩:=hSw);rw[hs]at z0;go_simp);refine aK 4 5 ?_;refine aO 6 ?_;refine aO 7 (v:=.bool true) ?_ (hy:=by intro w hSw;(obtain⟨z0,z1,z2⟩:=hSw);go_simp;(try first | omega | (rw[decide_eq_true_iff];omega)));refine aB 8 9 10 11 ?_;refine aK 12 13 ?_;refine aO 14 (v:=.bool true) ?_ (hy:=by intro w hSw;(obtain⟨z0,z1,z2⟩:=hSw);go_simp;(try first | omega | (rw[decide_eq_true_iff];omega)));refine aB 15 16 17 18 ?_;refine aO 19 ?_;refine aX 20 fun Kq hKq=> ?_;go_simp;refine(aU f c _ (HC.below a1.o)).mono ?_;rintro e w7⟨rfl,hb⟩;replace a3:=hid ((hb.cell (p:=⟨N1+1,0,none⟩) a0.o).trans a3.o);replace a2:=hid ((hb.cell (p:=⟨N1+1,1,none⟩) a0.o).trans a2.o);replace a0:=hid (Nat.lt_of_lt_of_le a0.o hb.size);replace a1:=hid (a1.trans (hb.mono a1.size));replace aF:=hid (aF.bel hb);clear hb;go_simp;refine hKq.out _ _ (⟨(HC.below a1.o).cell 8 c.sacks rfl,a3.o,a2.o⟩) ?_;clear hKq Kq hZ;refine fun hZ=>aT ?_;refine aO 21 (v:=.bool false) ?_ (hy:=by intro w hSw;(obtain⟨z0,z1,z2⟩:=hSw);go_simp;(try first | omega | (rw[decide_eq_false_iff_not];omega)));refine aO 22 ?_;refine az ?_ _;clear hZ;go_wp2_with fail
        go_meet
        case rel=>exact⟨congrArg Value.bool (HQ.o),a1.o,aF.o,a3.o,a2.o,a0.o⟩
       have HQ:=hid (show false=iM c.sacks c.next (y1,y2) by unfold iM;rw[hs,Bool.true_and];exact(decide_eq_false (fun h=>h2 h.2.1)).symm);refine bC (fun W:World=>W.cell? ⟨f.C,8,none⟩=some (c.sacks:Y)/\W.cell? ⟨N1+1,0,none⟩=some (y1:Y)/\W.cell? ⟨N1+1,1,none⟩=some (y2:Y)) (⟨(HC.below a1.o).cell 8 c.sacks rfl,a3.o,a2.o⟩) fun hZ=>?_;have hb:=(Below.refl w1.heap.size w1).drew;replace a3:=hid ((hb.cell (p:=⟨N1+1,0,none⟩) a0.o).trans a3.o);replace a2:=hid ((hb.cell (p:=⟨N1+1,1,none⟩) a0.o).trans a2.o);replace a0:=hid (Nat.lt_of_lt_of_le a0.o hb.size);replace a1:=hid (a1.trans (hb.mono a1.size));replace aF:=hid (aF.bel hb);clear hb;generalize w1.drew=w2 at a3 a2 a0 a1 aF hZ|-;refine aK 0 1 ?_;refine aO 2 ?_;refine aO 3 (v:=.bool true) ?_ (hy:=by intro w hSw;(obtain⟨z0,z1,z2⟩:=hSw);rw[hs]at z0;go_simp);refine aK 4 5 ?_;refine aO 6 ?_;refine aO 7 (v:=.bool true) ?_ (hy:=by intro w hSw;(obtain⟨z0,z1,z2⟩:=hSw);go_simp;(try first | omega | (rw[decide_eq_true_iff];omega)));refine aB 8 9 10 11 ?_;refine aK 12 13 ?_;refine aO 14 (v:=.bool false) ?_ (hy:=by intro w hSw;(obtain⟨z0,z1,z2⟩:=hSw);go_simp;(try first | omega | (rw[decide_eq_false_iff_not];omega)))
      rotate_left 1
      focus
       have HQ:=hid (show false=iM c.sacks c.next (y1,y2) by unfold iM;rw[hs,Bool.true_and];exact(decide_eq_false (fun h=>h1 h.1)).symm);refine bC (fun W:World=>W.cell? ⟨f.C,8,none⟩=some (c.sacks:Y)/\W.cell? ⟨N1+1,0,none⟩=some (y1:Y)/\W.cell? ⟨N1+1,1,none⟩=some (y2:Y)) (⟨(HC.below a1.o).cell 8 c.sacks rfl,a3.o,a2.o⟩) fun hZ=>?_;have hb:=(Below.refl w1.heap.size w1).drew;replace a3:=hid ((hb.cell (p:=⟨N1+1,0,none⟩) a0.o).trans a3.o);replace a2:=hid ((hb.cell (p:=⟨N1+1,1,none⟩) a0.o).trans a2.o);replace a0:=hid (Nat.lt_of_lt_of_le a0.o hb.size);replace a1:=hid (a1.trans (hb.mono a1.size));replace aF:=hid (aF.bel hb);clear hb;generalize w1.drew=w2 at a3 a2 a0 a1 aF hZ|-;refine aK 0 1 ?_;refine aO 2 ?_;refine aO 3 (v:=.bool true) ?_ (hy:=by intro w hSw;(obtain⟨z0,z1,z2⟩:=hSw);rw[hs]at z0;go_simp);refine aK 4 5 ?_;refine aO 6 ?_;refine aO 7 (v:=.bool false) ?_ (hy:=by intro w hSw;(obtain⟨z0,z1,z2⟩:=hSw);go_simp;(try first | omega | (rw[decide_eq_false_iff_not];omega)));refine aK 8 9 ?_;refine aV 10 ?_;refine aV 11 ?_;refine aV 12 ?_;refine aV 13 ?_;refine aV 14 ?_
      all_goals
       refine aK 15 16 ?_;refine aV 17 ?_;refine aV 18 ?_;refine aV 19 ?_;refine aV 20 ?_;refine aV 21 ?_;refine aO 22 ?_;refine az ?_ _;clear hZ;go_wp2_with fail
       go_meet
       case rel=>exact⟨congrArg Value.bool (HQ.o),a1.o,aF.o,a3.o,a2.o,a0.o⟩
     have hs2:c.sacks=false:=by simpa using hs
     have HQ:=hid (show false=iM c.sacks c.next (y1,y2) by unfold iM;rw[hs2];rfl);refine bC (fun W:World=>W.cell? ⟨f.C,8,none⟩=some (c.sacks:Y)/\W.cell? ⟨N1+1,0,none⟩=some (y1:Y)/\W.cell? ⟨N1+1,1,none⟩=some (y2:Y)) (⟨(HC.below a1.o).cell 8 c.sacks rfl,a3.o,a2.o⟩) fun hZ=>?_;have hb:=(Below.refl w1.heap.size w1).drew;replace a3:=hid ((hb.cell (p:=⟨N1+1,0,none⟩) a0.o).trans a3.o);replace a2:=hid ((hb.cell (p:=⟨N1+1,1,none⟩) a0.o).trans a2.o);replace a0:=hid (Nat.lt_of_lt_of_le a0.o hb.size);replace a1:=hid (a1.trans (hb.mono a1.size));replace aF:=hid (aF.bel hb);clear hb;generalize w1.drew=w2 at a3 a2 a0 a1 aF hZ|-;refine aK 0 1 ?_;refine aO 2 ?_;refine aO 3 (v:=.bool false) ?_ (hy:=by intro w hSw;(obtain⟨z0,z1,z2⟩:=hSw);rw[hs2]at z0;go_simp);refine aO 4 ?_;refine aV 5 ?_;refine aV 6 ?_;refine aV 7 ?_;refine aK 8 9 ?_;refine aV 10 ?_;refine aV 11 ?_;refine aV 12 ?_;refine aV 13 ?_;refine aV 14 ?_;refine aK 15 16 ?_;refine aV 17 ?_;refine aV 18 ?_;refine aV 19 ?_;refine aV 20 ?_;refine aV 21 ?_;refine aO 22 ?_;refine az ?_ _;clear hZ;go_wp2_with fail
     go_meet
     case rel=>exact⟨congrArg Value.bool (HQ.o),a1.o,aF.o,a3.o,a2.o,a0.o⟩
    case rest =>
     obtain⟨rfl,hb,ho,e0,e1,hsl⟩:=hcut;have a4:=hid hb;have HOW:=hid ho;have ea:=hb.size;clear hb ho a1 aF a3 a2 a0 hy1 hy2;generalize iM c.sacks c.next (y1,y2)=q at a6
     cases q with
     | false =>
      go_wp2_with fail
      go_roundg (gk-1)
      case measure=>omega
      case rel=>exact⟨k+1,by go_num,by omega,a4.o,by rw[a6.o];exact HOW.o⟩
     | true =>
      have bn:=hid (show TL.length<=4398046511104 from Nat.le_trans c4.o (by decide))
      go_wp2_with (first | (at_builtin;refine ar _ rfl _ _ rfl w.heap.size _ _ rfl (HOW.alloc _) bn.o _ (y1,y2) rfl (by simp) (by simp) (by simp;omega) ?_;intro v4 w4 ho4 hg4 hb4))
      have c6:=aM (N:=w.heap.size) hg4 (by simp;omega) (fun j e=>(HOW.lt j e).1);have d8:=hid ((a4.trans (((Below.refl _ _).alloc (Nat.le_refl _) _).mono a4.size)).trans c6);clear c6 hb4 hg4 e0 e1;have bo:=hid ho4;clear ho4;go_wp2_with fail
      go_roundg (gk-1)
      case measure=>omega
      case rel=>exact⟨k+1,by go_num,by omega,d8.o,by rw[a6.o];exact bo.o⟩
  obtain rfl:k=bl.length:=by omega
  rw[List.take_length]at HOW;obtain⟨R,hR⟩:∃R,R=ej c.sacks c.next c.cf.iss bl:=⟨_,rfl⟩;rw[<-hR]at HOW;have c7:=hid (show R.length<=3 from hR ▸ Nat.le_trans (oD _ _ _ _) hl);have HR:=hid hR;clear hR hk;obtain⟨ra,rc,rfl,hrc⟩:=HOW.val;clear hrc;have a7:=hid (HC.below a4.o);have hun:=HO.una;obtain⟨al,am,av⟩:=hun;obtain⟨ha1,ha2⟩:=ha;go_wp2_with fail;refine(dB f c _ a7.o).mono ?_;rintro e w1⟨rfl,hb⟩;replace a7:=hid (a7.below hb);replace a4:=hid (a4.trans (hb.mono a4.size));replace HOW:=hid (HOW.bel hb);clear hb;have c0:=a7.cell 0 f.S rfl;go_wp2_with fail;refine(mK f.S (f.S+1) c.sc _ a7.sc).mono ?_;rintro e w2⟨v,rfl,ho,hb⟩;have d9:=HO.sklen;obtain⟨sa,sc,rfl,hsc⟩:=ho.val;clear hsc;have c8:=hid (show SpAt w2 w2.heap.size sa c.sc.sk from oE ho (by omega));replace a7:=hid (a7.below hb);replace a4:=hid (a4.trans (hb.mono a4.size));replace HOW:=hid (HOW.bel hb);clear hb ho c0;have bu:=hid HO.sc.csk;go_wp2_with fail
  go_loopg [13,71] c.sc.sk.length (fun g v13 kv wr=>∃k:Nat,kv=((k:Int):Y)/\g+k=c.sc.sk.length/\v13=((ack-c.una-gz ack (c.sc.sk.take k):Int):Y)/\Below w2.heap.size w2 wr)
  case atStart=>exact⟨0,rfl,rfl,by rw[List.take_zero];unfold gz;rw[Int.sub_zero],Below.refl _ _⟩
  case round =>
   obtain⟨k,rfl,hg,rfl,hb⟩:=hrel;have ax:=hid hb;clear hb;have c9:=mY (ack:=ack) bu.o k;by_cases hk:k<c.sc.sk.length
   ·obtain⟨b,be,rfl,hbl,hcs⟩:=(c8.below ax.o).cells (by omega);obtain⟨d0,d1⟩:=hcs k hk;clear hcs;have d7:(k:Int)<(c.sc.sk.length:Int):=by omega
    have a6:=hid (rU ack c.sc.sk k hk);have ac:=mY (ack:=ack) bu.o (k+1);have ca:=pL bu.o (List.getElem_mem hk);generalize gz ack (c.sc.sk.take k)=T at a6 c9;rw[a6.o]at ac;generalize c.sc.sk[k]=x at d0 d1 a6 ac ca;obtain⟨x1,x2⟩:=x;dsimp only at d0 d1 ac ca;go_wp2_with fail
    go_roundg (gk-1)
    case measure=>omega
    case rel=>exact⟨k+1,by go_num,by omega,by rw[a6.o];go_num,ax.trans (((Below.refl _ _).alloc (Nat.le_refl _) _).mono ax.size)⟩
   obtain rfl:k=c.sc.sk.length:=by omega
   rw[List.take_length]at c9|-;have hb:=ax.o;replace a7:=hid (a7.below hb);replace a4:=hid (a4.trans (hb.mono a4.size));replace HOW:=hid (HOW.bel hb);clear hb ax c8;have c0:=a7.cell 0 f.S rfl;go_wp2_with fail;refine(jW f.S (f.S+1) c.sc ack ra rc R _ HO.sc a7.sc ⟨oE HOW.o (by have:=c7.o;omega),fun hp ad e=>(HOW.ty ad e).ne a7.tyS (by decide)⟩ (by rw[List.length_append];have:=c7.o;omega)).mono ?_;rintro e w4⟨rfl,hs,hc⟩;have hnb:=py HO.sc (R:=R) ⟨ha1,ha2⟩;have HE:=hid (show c.repN ack bl=c.sc.ackN ack R-(ack-c.una-gz ack c.sc.sk) by unfold Cn.repN;rw[HR.o]);generalize c.sc.ackN ack R=an at hnb HE|-;have da:=hid (a7.onS hs hc);have dc:=hid ((ChgF.ofB a4.o).trans (.ofS hc));clear hs hc;go_wp2;go_ret;exact⟨by rw[HE.o];rfl,by have:=da.o;rw[HR.o]at this;exact this,dc.o⟩
end
section
set_option maxHeartbeats 8000000
set_option maxRecDepth 100000
open Go.RowKit Go.Shelf
theorem Sw.pre {f:Fp}{c:Cn}{w0 W V:World}{B:Nat}{x:bp}(h:Sw f W B x c V)(hx:ChgF f w0 W):Sw f w0 B x c V:=⟨h.cn,hx.trans h.ch,h.row,h.bl,h.top⟩
def Cn.ackE (r:Cn)(una ack:Int):Cn:=if 0<ack-max una 1 then { r with cg:=r.cg.acked (ack-max una 1) ack }else r
def Cn.ackA (r:Cn)(now una ack:Int):Cn:=if una<ack then(Cn.ackE { r with dl:=ex,tm:=r.tm.acked now ack } una ack).drop ack else r
def Cn.ackL (b:Cn)(ack sacked flight:Int):Cn:=if 0<sacked/\b.mark<=ack/\b.sc.lost b.mss≠[]then { b with cg:=b.cg.lost flight b.next }else b
def Cn.ackD (c:Cn)(now:Int)(s:Sg)(ack:Int):Cn:=(((c.report ack s.bl).ackA now c.una ack).announce ack s.win).ackL ack (c.repN ack s.bl) c.flight
def Cn.acked0 (c:Cn)(now:Int)(s:Sg)(ack:Int):Cn:=if ack<c.una then c else if c.una<=c.last/\c.last<ack then(c.ackD now s ack).step now 7 else c.ackD now s ack
theorem Cn.acked_0 (c:Cn)(now:Int)(s:Sg)(ack:Int):c.acked now s ack=Cn.acked0 { c with tries:=0 } now s ack:=rfl
namespace Cn.Ok
variable {c : Cn}
theorem ackE (h:c.Ok)(una ack:Int):(c.ackE una ack).Ok:=by
 unfold Cn.ackE;split
 ·exact h.onCg (Cg.acked_ok h.cg _ _)
 exact h
theorem ackA (h:c.Ok)(now una ack:Int):(c.ackA now una ack).Ok:=by
 unfold Cn.ackA;split
 ·exact(((h.onDl eE).onTm (Tm.acked_fit h.tm now ack)).ackE _ _).drop _
 exact h
theorem ackL (h:c.Ok)(ack sacked flight:Int):(c.ackL ack sacked flight).Ok:=by
 unfold Cn.ackL;split
 ·exact h.onCg (Cg.lost_ok h.cg _ h.in64n)
 exact h
end Cn.Ok
theorem vU {c:Cn}(h:c.Ok){ack:Int}{bl:List Sp}(ha: -2147483648<=ack/\ack<=2147483647): -8796093022208<=c.repN ack bl/\c.repN ack bl<=8796093022208:=by
 unfold Cn.repN;have h1:=py h.sc (R:=ej c.sacks c.next c.cf.iss bl) ha;have h2:=mY (ack:=ack) h.sc.csk c.sc.sk.length;rw[List.take_length]at h2;have:=h.una;omega
theorem fj (f:Fp) (c':Cn) (now:Int) (s:Sg) (ack:Int) (a:Option Addr) (cap:Nat) (w:World) (h:CnAt f c' w) (ok:c'.Ok) (hn:aI now) (hs:s.Ok) (hb:au w a s.bl) (ha: -2147483648<=ack/\ack<=2147483647) :
  Calls Tryz.prog 112 #[f.C,now,cw s a cap,ack] w fun e w'=>e= .returned (.tuple #[])/\CnAt f (c'.acked now s ack) w'/\ChgF f w w':=by
 have HN:=hid hn;have dk:=hid hs.win;have dn:=hid hs.blen;have hlt:=h.lt;have ds:=h.cell 33 c'.tries rfl;have eB:=h.free 33;have hA:=h.set 33 (0:Int) { c' with tries:=0 } rfl rfl rfl rfl rfl;have hX:ChgF f w (w.setCell ⟨f.C,33,none⟩ (0:Int)):=.ofC ((Chg.refl _ _).setCell 33 _);have hS:=(Sw.start (x:=(s,a,cap)) hA (hb.chgF h hX)).pre hX;rw[World.size_setCell]at hS;have HO:=hid ok.tries0;have HE:=hid (Cn.acked_0 c' now s ack);obtain⟨c,hc0⟩:∃c:Cn,c={ c' with tries:=0 }:=⟨_,rfl⟩;rw[<-hc0]at hS HO HE;have HS:=hid hS;clear hS hA hX hc0 h hb ok hs hn;unfold cw;obtain⟨ha1,ha2⟩:=ha
 go_enter Tryz.func112,Tryz.ntmps112
 go_wp2_with fail;change Calls _ _ _ ((w.setCell ⟨f.C,33,none⟩ (0:Int)).alloc (.cells (aW (s,a,cap)).toArray 43)) _;generalize ((w.setCell ⟨f.C,33,none⟩ (0:Int)).alloc (.cells (aW (s,a,cap)).toArray 43))=w1 at HS|-;clear ds eB hlt;refine(dB f c _ HS.cn).mono ?_;rintro e w2⟨rfl,hb⟩;replace HS:=hid (HS.bel hb);clear hb;have hun:=HO.una;obtain⟨al,am,av⟩:=hun;by_cases h1:ack<c.una
 ·have hd:decide (ack<c.una)=true:=decide_eq_true h1;have H1:=hid h1;clear h1;go_wp2_with fail;exact bodyPost_ret (results_none rfl _ _ _) rfl ⟨rfl,by rw[HE.o];unfold Cn.acked0;rw[if_pos H1.o];exact HS.cn,HS.ch⟩
 have hd:decide (ack<c.una)=false:=decide_eq_false h1;have H1:=hid h1;clear h1;replace HE:=hid (show c'.acked now s ack=if c.una<=c.last/\c.last<ack then(c.ackD now s ack).step now 7 else c.ackD now s ack by rw[HE.o];exact if_neg H1.o);go_wp2_with fail;refine(cr f c _ HS.cn HO.sc).mono ?_;rintro e w3⟨rfl,hb⟩;replace HS:=hid (HS.bel hb);clear hb;clear hd;have hfl:=HO.flight;have eC:=hid (show -1099511627776<=c.base/\c.base<=1099511627776 by have:=HO.b0;have:=HO.base1;omega);have eL:=hid (show c.held.length<=1099511627776 by have:=HO.hlen;omega);go_wp2_with fail;refine(dv f c _ HS.cn eC.o eL.o).mono ?_;rintro e w4⟨rfl,rfl⟩;replace HS:=hid HS.drew;generalize w3.drew=w4 at HS|-;have hlast:0<=c.last/\c.last<=1073741824:=by have:=HO.b0;have:=HO.b1;unfold Cn.last at this|-;omega
 go_wp2_with fail;refine bC (fun W:World=>W.cell? ⟨f.C,24,none⟩=some (c.cf.iss:Y)/\W.cell? ⟨w.heap.size,11,none⟩=some (.slice a s.bl.length cap)) (⟨HS.cn.cell 24 c.cf.iss rfl,HS.row.cell 11 (.slice a s.bl.length cap) rfl⟩) fun hZ=>?_;replace HS:=hid HS.drew;generalize w4.drew=w4d at HS hZ|-;refine aB 0 1 2 3 ?_;refine aB 4 5 6 7 ?_;refine aK 8 9 ?_;refine aO 10 ?_;refine aX 11 fun Kq hKq=> ?_;go_simp;refine(oF f c ack s.bl a cap _ HS.cn HO.o HS.bl dn.o ⟨ha1,ha2⟩).mono ?_;rintro e w5⟨rfl,hc,hch⟩;have HR:=hid (HS.call hc hch);clear hc hch;go_simp;refine hKq.out _ _ (⟨HR.cn.cell 24 c.cf.iss rfl,HR.row.cell 11 (.slice a s.bl.length cap) rfl⟩) ?_;clear hKq Kq hZ;refine fun hZ=>aT ?_;refine aO 12 ?_;refine az ?_ _;clear hZ HS;have ak:=hid (HO.report ack s.bl);have hnb:=vU HO.o (bl:=s.bl) ⟨ha1,ha2⟩;have ag:=hid (show c.ackD now s ack=(((c.report ack s.bl).ackA now c.una ack).announce ack s.win).ackL ack (c.repN ack s.bl) c.flight from rfl);generalize c.repN ack s.bl=sk at ag hnb|-;generalize c.report ack s.bl=r at ag ak HR;have HS:=hid HR.o;clear HR
 go_upto_if 45 with fail
 go_cut []from 45 to 77 (fun wx=>Sw f w w.heap.size (s,a,cap) (r.ackA now c.una ack) wx)
 case first =>
  by_cases h2:c.una<ack
  ·have HA:=hid (show r.ackA now c.una ack=(Cn.ackE { r with dl:=ex,tm:=r.tm.acked now ack } c.una ack).drop ack from if_pos h2);have c1:=HS.cn.cell 1 f.T rfl;have eS:=HS.cn.cell 30 r.dl.set rfl;have e2:=HS.cn.cell 31 r.dl.since rfl;have e3:=HS.cn.cell 32 r.dl.ticks rfl;have e4:=HS.cn.free 30;have e5:=HS.cn.free 31;have f32:=HS.cn.free 32;have a9:=hid (HS.call (((HS.cn.set 30 false { r with dl:=⟨false,r.dl.since,r.dl.ticks⟩ } rfl rfl rfl rfl rfl).set 31 (0:Int) { r with dl:=⟨false,0,r.dl.ticks⟩ } rfl rfl rfl rfl rfl).set 32 (0:Int) { r with dl:=ex } rfl rfl rfl rfl rfl) (.ofC ((((Chg.refl _ _).setCell 30 _).setCell 31 _).setCell 32 _)));go_wp2_with fail;refine(lM f.T r.tm now ack HN.o ak.tm _ a9.cn.tm).mono ?_;rintro e w6⟨rfl,ht,hc⟩;replace HS:=hid (a9.call (a9.cn.onT ht hc) (.ofT hc));clear ht hc a9 c1 eS e2 e3 e4 e5 f32;have bv:=hid ((ak.onDl eE).onTm (Tm.acked_fit ak.tm now ack));obtain⟨d,hdd⟩:∃d:Cn,d={ r with dl:=ex,tm:=r.tm.acked now ack }:=⟨_,rfl⟩;replace HS:=hid (HS.eq (d:=d) hdd);rw[<-hdd]at HA bv;clear hdd
   go_upto_if 63 with fail
   go_cut []from 63 to 72 (fun wx=>Sw f w w.heap.size (s,a,cap) (d.ackE c.una ack) wx)
   case first =>
    by_cases h3:0<ack-max c.una 1
    ·have cC:=hid (show d.ackE c.una ack={ d with cg:=d.cg.acked (ack-max c.una 1) ack }from if_pos h3);have c2:=HS.cn.cell 2 f.G rfl;go_wp2_with fail;refine(nX f.G d.cg (ack-max c.una 1) ack bv.cg _ HS.cn.cg).mono ?_;rintro e w7⟨rfl,hg,hc⟩;replace HS:=hid (HS.call (HS.cn.onG hg hc) (.ofG hc));clear hg hc;go_wp2_with fail
     go_meet
     case rel=>exact HS.eq cC.o
    have cC:=hid (show d.ackE c.una ack=d from if_neg h3);go_wp2_with fail
    go_meet
    case rel=>exact HS.eq cC.o
   case rest =>
    replace HS:=hid hcut;have b5:=hid (bv.ackE c.una ack);generalize d.ackE c.una ack=d2 at HS HA b5;clear hcut;have cF:=hid (show -1099511627776<=d2.base/\d2.base<=1099511627776 by have:=b5.b0;have:=b5.base1;omega);have cL:=hid (show d2.held.length<=1099511627776 by have:=b5.hlen;omega);go_wp2_with fail;refine(rD f d2 ack _ HS.cn cF.o cL.o (by omega)).mono ?_;rintro e w8⟨rfl,hc,hch⟩;replace HS:=hid (HS.call hc hch);clear hc hch;go_wp2_with fail
    go_meet
    case rel=>exact HS.eq HA.o
  have HA:=hid (show r.ackA now c.una ack=r from if_neg h2);go_wp2_with fail
  go_meet
  case rel=>exact HS.eq HA.o
 case rest =>
  replace HS:=hid hcut;have cM:=hid (ak.ackA now c.una ack);generalize r.ackA now c.una ack=d at HS cM ag;clear hcut ak;obtain⟨hw1,hw2⟩:=dk.o;go_wp2_with fail;refine bC (fun W:World=>W.cell? ⟨w.heap.size,8,none⟩=some (s.win:Y)) (HS.row.cell 8 s.win rfl) fun hZ=>?_;replace HS:=hid HS.drew;generalize wc.drew=wcd at HS hZ|-;refine aB 0 1 2 3 ?_;refine aK 4 5 ?_;refine aX 6 fun Kq hKq=> ?_;go_simp;refine(gp f d ack s.win _ HS.cn (by omega) ⟨hw1,hw2⟩).mono ?_;rintro e w9⟨rfl,hc,hch⟩;have HR:=hid (HS.call hc hch);clear hc hch;go_simp;refine hKq.out _ _ (HR.row.cell 8 s.win rfl) ?_;clear hKq Kq hZ;refine fun hZ=>aT ?_;refine az ?_ _;clear hZ HS;have aa:=hid (cM.announce (show ack<=1099511562240 by omega) ⟨hw1,hw2⟩);generalize d.announce ack s.win=b at HR aa ag;clear cM;have HS:=hid HR.o;clear HR;obtain⟨cS,cT⟩:=aa.mark
  go_upto_region 15 with fail
  go_cut [109]from 84 to 110 (fun v wx=>v=(decide (0<sk/\b.mark<=ack/\b.sc.lost b.mss≠[]):Y)/\Sw f w w.heap.size (s,a,cap) b wx)
  case first =>
   by_cases h4:0<sk
   ·by_cases h5:b.mark<=ack
    ·by_cases h6:b.sc.lost b.mss=[]
     ·have hl0:(b.sc.lost b.mss).length=0:=by rw[h6];rfl
      refine bC (fun W:World=>W.cell? ⟨f.C,10,none⟩=some (b.mark:Y)/\W.cell? f.C=some (f.S:Y)/\W.cell? ⟨f.C,7,none⟩=some (b.mss:Y)) (⟨HS.cn.cell 10 b.mark rfl,HS.cn.cell 0 f.S rfl,HS.cn.cell 7 b.mss rfl⟩) fun hZ=>?_;replace HS:=hid HS.drew;generalize w9.drew=w9d at HS hZ|-;refine aO 0 ?_;refine aO 1 (v:=.bool true) ?_ (hy:=by intro w hSw;(obtain⟨z0,z1,z2⟩:=hSw);go_simp;(try first | omega | (rw[decide_eq_true_iff];omega)));refine aB 2 3 4 5 ?_;refine aK 6 7 ?_;refine aO 8 ?_;refine aO 9 (v:=.bool true) ?_ (hy:=by intro w hSw;(obtain⟨z0,z1,z2⟩:=hSw);go_simp;(try first | omega | (rw[decide_eq_true_iff];omega)));refine aB 10 11 12 13 ?_;refine aB 14 15 16 17 ?_;refine aB 18 19 20 21 ?_;refine aX 22 fun Kq hKq=> ?_;go_simp;refine(iH f.S (f.S+1) b.sc b.mss _ aa.sc HS.cn.sc).mono ?_;rintro e w10⟨v,rfl,ho,hb⟩;obtain⟨la,lc,rfl,-⟩:=ho.val;replace HS:=hid (HS.bel hb);clear hb ho;go_simp;refine hKq.out _ _ (⟨HS.cn.cell 10 b.mark rfl,HS.cn.cell 0 f.S rfl,HS.cn.cell 7 b.mss rfl⟩) ?_;clear hKq Kq hZ;refine fun hZ=>aT ?_;refine aO 23 ?_;refine aO 24 (v:=.bool false) ?_ (hy:=by intro w hSw;(obtain⟨z0,z1,z2⟩:=hSw);go_simp;(try first | omega | (rw[decide_eq_false_iff_not];omega)));refine aO 25 ?_;refine az ?_ _;clear hZ;go_wp2_with fail
      go_meet
      case rel=>exact⟨congrArg Value.bool (decide_eq_false (fun h=>h.2.2 h6)).symm,HS.o⟩
     have hl0:0<(b.sc.lost b.mss).length:=List.length_pos_iff.2 h6;refine bC (fun W:World=>W.cell? ⟨f.C,10,none⟩=some (b.mark:Y)/\W.cell? f.C=some (f.S:Y)/\W.cell? ⟨f.C,7,none⟩=some (b.mss:Y)) (⟨HS.cn.cell 10 b.mark rfl,HS.cn.cell 0 f.S rfl,HS.cn.cell 7 b.mss rfl⟩) fun hZ=>?_;replace HS:=hid HS.drew;generalize w9.drew=w9d at HS hZ|-;refine aO 0 ?_;refine aO 1 (v:=.bool true) ?_ (hy:=by intro w hSw;(obtain⟨z0,z1,z2⟩:=hSw);go_simp;(try first | omega | (rw[decide_eq_true_iff];omega)));refine aB 2 3 4 5 ?_;refine aK 6 7 ?_;refine aO 8 ?_;refine aO 9 (v:=.bool true) ?_ (hy:=by intro w hSw;(obtain⟨z0,z1,z2⟩:=hSw);go_simp;(try first | omega | (rw[decide_eq_true_iff];omega)));refine aB 10 11 12 13 ?_;refine aB 14 15 16 17 ?_;refine aB 18 19 20 21 ?_;refine aX 22 fun Kq hKq=> ?_;go_simp;refine(iH f.S (f.S+1) b.sc b.mss _ aa.sc HS.cn.sc).mono ?_;rintro e w10⟨v,rfl,ho,hb⟩;obtain⟨la,lc,rfl,-⟩:=ho.val;replace HS:=hid (HS.bel hb);clear hb ho;go_simp;refine hKq.out _ _ (⟨HS.cn.cell 10 b.mark rfl,HS.cn.cell 0 f.S rfl,HS.cn.cell 7 b.mss rfl⟩) ?_;clear hKq Kq hZ;refine fun hZ=>aT ?_;refine aO 23 ?_;refine aO 24 (v:=.bool true) ?_ (hy:=by intro w hSw;(obtain⟨z0,z1,z2⟩:=hSw);go_simp;(try first | omega | (rw[decide_eq_true_iff];omega)));refine aO 25 ?_;refine az ?_ _;clear hZ;go_wp2_with fail
     go_meet
     case rel=>exact⟨congrArg Value.bool (decide_eq_true ⟨h4,h5,h6⟩).symm,HS.o⟩
    refine bC (fun W:World=>W.cell? ⟨f.C,10,none⟩=some (b.mark:Y)/\W.cell? f.C=some (f.S:Y)/\W.cell? ⟨f.C,7,none⟩=some (b.mss:Y)) (⟨HS.cn.cell 10 b.mark rfl,HS.cn.cell 0 f.S rfl,HS.cn.cell 7 b.mss rfl⟩) fun hZ=>?_;replace HS:=hid HS.drew;generalize w9.drew=w9d at HS hZ|-;refine aO 0 ?_;refine aO 1 (v:=.bool true) ?_ (hy:=by intro w hSw;(obtain⟨z0,z1,z2⟩:=hSw);go_simp;(try first | omega | (rw[decide_eq_true_iff];omega)));refine aB 2 3 4 5 ?_;refine aK 6 7 ?_;refine aO 8 ?_;refine aO 9 (v:=.bool false) ?_ (hy:=by intro w hSw;(obtain⟨z0,z1,z2⟩:=hSw);go_simp;(try first | omega | (rw[decide_eq_false_iff_not];omega)));refine aK 10 11 ?_;refine aV 12 ?_;refine aV 13 ?_;refine aV 14 ?_;refine aV 15 ?_;refine aV 16 ?_;refine aV 17 ?_;refine aV 18 ?_;refine aV 19 ?_;refine aV 20 ?_;refine aV 21 ?_;refine aV 22 ?_;refine aV 23 ?_;refine aV 24 ?_;refine aO 25 ?_;refine az ?_ _;clear hZ;go_wp2_with fail
    go_meet
    case rel=>exact⟨congrArg Value.bool (decide_eq_false (fun h=>by have:=h.2.1;omega)).symm,HS.o⟩
   refine bC (fun W:World=>W.cell? ⟨f.C,10,none⟩=some (b.mark:Y)/\W.cell? f.C=some (f.S:Y)/\W.cell? ⟨f.C,7,none⟩=some (b.mss:Y)) (⟨HS.cn.cell 10 b.mark rfl,HS.cn.cell 0 f.S rfl,HS.cn.cell 7 b.mss rfl⟩) fun hZ=>?_;replace HS:=hid HS.drew;generalize w9.drew=w9d at HS hZ|-;refine aO 0 ?_;refine aO 1 (v:=.bool false) ?_ (hy:=by intro w hSw;(obtain⟨z0,z1,z2⟩:=hSw);go_simp;(try first | omega | (rw[decide_eq_false_iff_not];omega)));refine aO 2 ?_;refine aV 3 ?_;refine aV 4 ?_;refine aV 5 ?_;refine aV 6 ?_;refine aV 7 ?_;refine aV 8 ?_;refine aV 9 ?_;refine aK 10 11 ?_;refine aV 12 ?_;refine aV 13 ?_;refine aV 14 ?_;refine aV 15 ?_;refine aV 16 ?_;refine aV 17 ?_;refine aV 18 ?_;refine aV 19 ?_;refine aV 20 ?_;refine aV 21 ?_;refine aV 22 ?_;refine aV 23 ?_;refine aV 24 ?_;refine aO 25 ?_;refine az ?_ _;clear hZ;go_wp2_with fail
   go_meet
   case rel=>exact⟨congrArg Value.bool (decide_eq_false (fun h=>by have:=h.1;omega)).symm,HS.o⟩
  case rest =>
   obtain⟨rfl,cb⟩:=hcut;replace HS:=hid cb;clear cb
   go_upto_if 109 with fail
   go_cut []from 109 to 121 (fun wx=>Sw f w w.heap.size (s,a,cap) (b.ackL ack sk c.flight) wx)
   case first =>
    by_cases h7:0<sk/\b.mark<=ack/\b.sc.lost b.mss≠[]
    ·rw[decide_eq_true h7];have HA:=hid (show b.ackL ack sk c.flight={ b with cg:=b.cg.lost c.flight b.next }from if_pos h7);clear h7;go_wp2_with fail;refine bC (fun W:World=>W.cell? ⟨f.C,2,none⟩=some (f.G:Y)) (HS.cn.cell 2 f.G rfl) fun hZ=>?_;replace HS:=hid HS.drew;generalize wc.drew=wcd at HS hZ|-;refine aB 0 1 2 3 ?_;refine aB 4 5 6 7 ?_;refine aO 8 ?_;refine aX 9 fun Kq hKq=> ?_;go_simp;refine(aU f b _ HS.cn).mono ?_;rintro e w11⟨rfl,hb⟩;replace HS:=hid (HS.bel hb);clear hb;go_simp;refine hKq.out _ _ (HS.cn.cell 2 f.G rfl) ?_;clear hKq Kq hZ;refine fun hZ=>aT ?_;refine aX 10 fun Kq hKq=> ?_;go_simp;refine(tL f.G b.cg c.flight b.next (by unfold aI;omega) aa.cg _ HS.cn.cg).mono ?_;rintro e w12⟨rfl,hg,hc⟩;have HR:=hid (HS.call (HS.cn.onG hg hc) (.ofG hc));clear hg hc;go_simp;refine hKq.out _ _ (HR.cn.cell 2 f.G rfl) ?_;clear hKq Kq hZ;refine fun hZ=>aT ?_;refine az ?_ _;clear hZ;go_wp2_with fail
     go_meet
     case rel=>exact HR.eq HA.o
    rw[decide_eq_false h7];have HA:=hid (show b.ackL ack sk c.flight=b from if_neg h7);clear h7;go_wp2_with fail
    go_meet
    case rel=>exact HS.eq HA.o
   case rest =>
    replace HS:=hid hcut;have b4:=hid (aa.ackL ack sk c.flight);generalize b.ackL ack sk c.flight=d3 at HS b4 ag;clear hcut aa cS cT;rw[ag.o]at HE;clear ag;by_cases h8:c.una<=c.last
    ·have cX:decide (c.una<=c.last)=true:=decide_eq_true h8;have H8:=hid h8;clear h8;by_cases h9:c.last<ack
     ·have cY:decide (c.last<ack)=true:=decide_eq_true h9;have H9:=hid h9;clear h9;go_wp2_with fail;refine(bz f d3 now 7 _ HS.cn b4.st (by decide)).mono ?_;rintro e w13⟨rfl,hc,hch⟩;replace HS:=hid (HS.call hc hch);clear hc hch;go_wp2_with fail
      go_end0
      exact⟨rfl,by rw[HE.o,if_pos ⟨H8.o,H9.o⟩];exact HS.cn,HS.ch⟩
     have cY:decide (c.last<ack)=false:=decide_eq_false h9;have H9:=hid h9;clear h9;go_wp2_with fail
     go_end0
     exact⟨rfl,by rw[HE.o,if_neg (fun h=>by have:=H9.o;have:=h.2;omega)];exact HS.cn,HS.ch⟩
    have cX:decide (c.una<=c.last)=false:=decide_eq_false h8;have H8:=hid h8;clear h8;go_wp2_with fail
    go_end0
    exact⟨rfl,by rw[HE.o,if_neg (fun h=>by have:=H8.o;have:=h.1;omega)];exact HS.cn,HS.ch⟩
end
end Go.Proofs.YtclkcmidhhfdmaaGreatDoor
