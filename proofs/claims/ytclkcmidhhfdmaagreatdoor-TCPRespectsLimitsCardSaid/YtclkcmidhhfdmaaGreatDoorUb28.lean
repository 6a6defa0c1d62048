import Derived.Test.YtclkcmidhhfdmaaGreatDoorUb27
namespace Go.Proofs.YtclkcmidhhfdmaaGreatDoor
open Lib (hid)
section
set_option maxHeartbeats 8000000
set_option maxRecDepth 100000
open Go.RowKit Go.Shelf
def InsOut (f:Fp)(w:World)(b:Bool)(d:Cn)(e:Ending)(w':World):Prop:=e= .returned (.bool b)/\CnAt f d w'/\ChgF f w w'
theorem rep_nil_iff (b:Bx):b.rep.length=0↔b.bl=[]:=by
 rw[Bx.rep_length]
 constructor
 ·intro h;exact List.eq_nil_of_length_eq_zero (by omega)
 intro h;rw[h];rfl
theorem tinsert_any (f:Fp) (c:Cn) (off:Int) (s:List UInt8) (w:World) (h:CnAt f c w) (ok:c.Ok) (ho: -2147483648<=off/\off<=2147483647) (hs:s.length<=1024) :
  Calls Tryz.prog 167 #[.pointer (some ⟨f.C,11,none⟩),.int .i64 off,.string ⟨s.toArray⟩] w (InsOut f w (c.insB off s) (c.insert off s)):=by
 have HO:=hid ok;have HC:=hid h;have HX:=hid (ChgF.refl f w);have hfe:=ok.fend;have hz:(⟨s.toArray⟩:ByteArray).size=s.length:=by simp[ByteArray.size]
 obtain⟨ho1,ho2⟩:=ho;obtain⟨hf1,hf2⟩:=hfe;clear h ok;have HB:=hid (show ∃hb:Bool,hb=decide (c.bx.bl≠[])from⟨_,rfl⟩);have c11:=HC.cell 11 (.pointer (some ⟨f.X,0,none⟩)) rfl
 go_enter Tryz.func167,Tryz.ntmps167
 go_wp2_with fail;refine(next_any f.X f.R 0 c.bx _ HC.bx).mono ?_;rintro e w1⟨rfl,rfl⟩;go_wp2_with fail;refine(blocks_any f.X f.R 0 c.bx _ HC.bx HO.bx).mono ?_;rintro e w1⟨ba,bc,rfl,-,-,-,hb⟩;replace HX:=hid (HX.trans (.ofB hb));replace HC:=hid (HC.below hb);clear hb c11;have hrl:c.bx.rep.length<=3:=by rw[Bx.rep_length];omega
 have c15:=HC.cell 15 (.bool c.ended) rfl;have c16:=HC.cell 16 (.int .i64 c.fend) rfl;obtain⟨S1,hS1⟩:∃S1,S1=if c.ended=true then s.take (min (max (c.fend-off) 0) s.length).toNat else s:=⟨_,rfl⟩;have HS1:=hid hS1;have hl1:S1.length<=1024:=by rw[hS1];split;(rw[List.length_take];omega);exact hs
 clear hS1
 go_upto_if 24 with fail
 go_cut [2]from 24 to 36 (fun v2 wx=>v2= .string ⟨S1.toArray⟩/\wx=w1)
 case first =>
  cases he:c.ended with
  | true =>
   rw[he]at c15;have HE:=hid (show S1=s.take (min (max (c.fend-off) 0) s.length).toNat by rw[HS1.o,if_pos he]);clear he;go_wp2_with fail
   all_goals
    go_meet
    case rel=>exact⟨by rw[HE.o];rw[ext_bs'];rw[List.drop_zero],rfl⟩
  | false =>
   rw[he]at c15;have HE:=hid (show S1=s by rw[HS1.o,if_neg (by rw[he];simp)]);clear he;go_wp2_with fail
   go_meet
   case rel=>exact⟨by rw[HE.o],rfl⟩
 case rest =>
  obtain⟨hv2,rfl⟩:=hcut;subst hv2;clear hz c15 c16;have hz1:(⟨S1.toArray⟩:ByteArray).size=S1.length:=by simp[ByteArray.size]
  obtain⟨S2,hS2⟩:∃S2,S2=insS c.ended c.fend off s:=⟨_,rfl⟩;have HS2:=hid (show S2=S1.drop (if off<0 then(min (-off) S1.length).toNat else 0) by rw[hS2,HS1.o];rfl);have hl2:S2.length<=1024:=by rw[HS2.o,List.length_drop];omega
  have HI:=hid hS2;clear hS2
  go_upto_if 38 with fail
  go_cut [1,2]from 38 to 45 (fun v1 v2 wx=>v1= .int .i64 (max off 0)/\v2= .string ⟨S2.toArray⟩/\wx=wc)
  case first =>
   by_cases hn:off<0
   ·have HE:=hid (show S2=S1.drop (min (-off) S1.length).toNat by rw[HS2.o,if_pos hn]);have hmx:max off 0=0:=by omega
    go_wp2_with fail
    all_goals
     go_meet
     case rel=>exact⟨by rw[hmx],by rw[HE.o];exact congrArg Value.string (ext_bs_drop _ _),rfl⟩
   have HE:=hid (show S2=S1 by rw[HS2.o,if_neg hn,List.drop_zero]);have hmx:max off 0=off:=by omega
   go_wp2_with fail
   go_meet
   case rel=>exact⟨by rw[hmx],by rw[HE.o],rfl⟩
  case rest =>
   obtain⟨hv1,hv2,rfl⟩:=hcut;subst hv1;subst hv2;clear hz1;have HBX:=hid (show c.insBx off s=if S2=[]then c.bx else c.bx.put (max off 0) S2 by unfold Cn.insBx;rw[<-HI.o]);have HIC:=hid (HO.insert ho2 hs)
   go_upto_if 47 with fail
   go_cut []from 47 to 54 (fun wx=>CnAt f (c.insert off s) wx/\ChgF f w wx)
   case first =>
    by_cases hn:S2=[]
    ·have HE:=hid (show c.insert off s=c by unfold Cn.insert;rw[HBX.o,if_pos hn]);subst hn;go_wp2_with fail
     go_meet
     case rel=>exact⟨by rw[HE.o];exact HC.o,HX.o⟩
    have HE:=hid (show c.insert off s={ c with bx:=c.bx.put (max off 0) S2 } by unfold Cn.insert;rw[HBX.o,if_neg hn])
    obtain⟨x,t,rfl⟩:∃x t,S2=x::t:=by
     cases S2 with
     | nil=>exact absurd rfl hn
     | cons x t=>exact⟨x,t,rfl⟩
    clear hn;have c11:=HC.cell 11 (.pointer (some ⟨f.X,0,none⟩)) rfl;go_wp2_with fail;refine(put_any f.X f.R 0 c.bx (max off 0) ⟨(x::t).toArray⟩ _ HC.bx HO.bx (Nat.zero_le _) (by have:=hl2;simp only[List.length_cons]at this;simp only[ByteArray.size,List.size_toArray,List.length_cons];omega)).mono ?_;rintro e w3⟨rfl,hb3,hc3⟩;have HT:=hid (show CnAt f (c.insert off s) w3/\ChgF f w w3 from⟨by rw[HE.o];exact HC.onX hb3 hc3,HX.trans (.ofX hc3)⟩);clear hb3 hc3;go_wp2_with fail
    go_meet
    case rel=>exact HT.o
   case rest =>
    obtain⟨hc,hch⟩:=hcut;replace HC:=hid hc;replace HX:=hid hch;clear hc hch HBX HS2 HS1;have c11:=HC.cell 11 (.pointer (some ⟨f.X,0,none⟩)) rfl;have HV:=hid (show c.insB off s=decide ((c.insBx off s).nx≠c.bx.nx/\c.bx.bl=[]/\(c.insBx off s).bl=[])from rfl);have HBO:=hid (show(c.insBx off s).Ok from HIC.bx);go_wp2_with fail;refine(next_any f.X f.R 0 (c.insBx off s) _ HC.bx).mono ?_;rintro e w4⟨rfl,rfl⟩;by_cases h1:(c.insBx off s).nx=c.bx.nx
    ·have HF:=hid (show c.insB off s=false by rw[HV.o];exact decide_eq_false (fun h=>h.1 h1));have hd:((c.insBx off s).nx==c.bx.nx)=true:=beq_iff_eq.2 h1;go_wp2;go_ret;exact⟨retB HF.symm,HC.o,HX.o⟩
    have hd:((c.insBx off s).nx==c.bx.nx)=false:=beq_eq_false_iff_ne.2 h1;have H1:=hid h1;by_cases h2:c.bx.bl=[]
    ·have H2:=hid h2;have hr0:c.bx.rep.length=0:=(rep_nil_iff c.bx).2 h2;have hrd:decide (0<c.bx.rep.length)=false:=by rw[hr0];rfl
     clear h2 hr0;go_wp2_with fail;refine(blocks_any f.X f.R 0 (c.insBx off s) _ HC.bx HBO.o).mono ?_;rintro e w5⟨ba2,bc2,rfl,-,-,-,hb⟩;replace HX:=hid (HX.trans (.ofB hb));replace HC:=hid (HC.below hb);clear hb c11;have HQ:=hid (show decide ((c.insBx off s).rep.length=0)=c.insB off s by rw[HV.o];exact decide_eq_decide.2 ⟨fun h=>⟨H1.o,H2.o,(rep_nil_iff _).1 h⟩,fun h=>(rep_nil_iff _).2 h.2.2⟩);have hrl2:(c.insBx off s).rep.length<=3:=by rw[Bx.rep_length];omega
     go_wp2;go_ret;exact⟨retB (by rw[<-HQ.o];first | rfl | exact decide_eq_decide.2 (by omega) | (simp;done) | (rw[Bool.eq_iff_iff];simp;omega)),HC.o,HX.o⟩
    have HF:=hid (show c.insB off s=false by rw[HV.o];exact decide_eq_false (fun h=>h2 h.2.1));have hr0:0<c.bx.rep.length:=Nat.pos_of_ne_zero (fun e=>h2 ((rep_nil_iff c.bx).1 e));have hrd:decide (0<c.bx.rep.length)=true:=decide_eq_true hr0;clear h2;go_wp2;go_ret;exact⟨retB HF.symm,HC.o,HX.o⟩
end
section
set_option maxHeartbeats 8000000
set_option maxRecDepth 100000
open Go.RowKit Go.Shelf
structure Sw (f:Fp)(w0:World)(B:Nat)(x:SgM)(c:Cn)(W:World):Prop where
 cn:CnAt f c W
 ch:ChgF f w0 W
 row:SgRow B x W
 bl:BlIn W x.2.1 x.1.bl
 top:gTop<=B
namespace Sw
variable {f : Fp} {c d : Cn} {w0 W W' : World} {B : Nat} {x : SgM}
theorem start (h:CnAt f c W)(hb:BlIn W x.2.1 x.1.bl):Sw f W W.heap.size x c (W.alloc (.cells (sgL x).toArray 43)):=by
 have hb0:=(Below.refl W.heap.size W).alloc (Nat.le_refl _) (.cells (sgL x).toArray 43);exact⟨h.below hb0,.ofB hb0,SgRow.new _ _,hb.keep hb0.size (.below hb0),h.gl.top⟩
theorem bel (h:Sw f w0 B x c W)(hb:Below W.heap.size W W'):Sw f w0 B x c W':=⟨h.cn.below hb,h.ch.trans (.ofB hb),h.row.below hb,h.bl.keep hb.size (.below hb),h.top⟩
theorem call (h:Sw f w0 B x c W)(hc:CnAt f d W')(hch:ChgF f W W'):Sw f w0 B x d W':=⟨hc,h.ch.trans hch,h.row.chgF h.cn hch,h.bl.chgF h.cn hch,h.top⟩
theorem drew (h:Sw f w0 B x c W):Sw f w0 B x c W.drew:=h.bel (Below.refl _ _).drew
theorem eq (h:Sw f w0 B x c W)(e:d=c):Sw f w0 B x d W:=e ▸ h
end Sw
theorem tstore_any (f:Fp) (c:Cn) (now:Int) (s:Sg) (off:Int) (a:Option Addr) (cap:Nat) (w:World) (h:CnAt f c w) (ok:c.Ok) (hs:s.Ok) (hb:BlIn w a s.bl) (ho: -2147483648<=off/\off<=2147483647) :
  Calls Tryz.prog 116 #[.pointer (some ⟨f.C,0,none⟩),.int .i64 now,sgV s a cap,.int .i64 off] w fun e w'=>e= .returned (.tuple #[])/\CnAt f (c.store now s off) w'/\ChgF f w w':=by
 have HO:=hid ok;have HSL:=hid hs.slen;have hlt:=h.lt;have hty:=h.tyC;have HS:=hid (Sw.start (x:=(s,a,cap)) h hb);obtain⟨g1,g2,g3,g4,g5,g6,g7,g8,g9,g10,g11,g12,g13⟩:=s;clear h hb ok hs;unfold sgV;dsimp only
 cases g13 with
 | nil =>
  have HE:=hid (show c.store now ⟨g1,g2,g3,g4,g5,g6,g7,g8,g9,g10,g11,g12,[]⟩ off=c from if_pos rfl);rw[HE.o]
  go_enter Tryz.func116,Tryz.ntmps116
  go_wp2_with fail
  go_end0
  exact⟨rfl,HS.cn,HS.ch⟩
 | cons x t =>
  have HE:=hid (show c.store now ⟨g1,g2,g3,g4,g5,g6,g7,g8,g9,g10,g11,g12,x::t⟩ off=if canR c.st=true then(if c.insB off (x::t)=true then(c.insert off (x::t)).ackSoon now else(c.insert off (x::t)).ackNow)else c.ackNow from if_neg (List.cons_ne_nil x t));rw[HE.o];dsimp only at HSL
  cases hc:canR c.st with
  | false =>
   rw[if_neg (by simp)]
   go_enter Tryz.func116,Tryz.ntmps116
   go_wp2_with fail;change Code.wp _ _ _ _ (w.alloc (.cells (sgL (⟨g1,g2,g3,g4,g5,g6,g7,g8,g9,g10,g11,g12,x::t⟩,a,cap)).toArray 43));generalize w.alloc (.cells (sgL (⟨g1,g2,g3,g4,g5,g6,g7,g8,g9,g10,g11,g12,x::t⟩,a,cap)).toArray 43)=w1 at HS|-;refine wpB (fun W:World=>W.cell? ⟨f.C,28,none⟩=some (.int .i64 c.st)/\W.cell? ⟨w.heap.size,12,none⟩=some (.string ⟨(x::t).toArray⟩)) (⟨HS.cn.cell 28 (.int .i64 c.st) rfl,HS.row.cell 12 (.string ⟨(x::t).toArray⟩) rfl⟩) fun hZ=>?_;replace HS:=hid HS.drew;generalize w1.drew=w2 at HS hZ|-;refine wpT4 0 1 2 3 ?_;refine wpR 4 fun Kq hKq=> ?_;go_simp;refine(canReceive_any c.st _).mono ?_;rintro e w3⟨rfl,rfl⟩;rw[hc];go_simp;refine hKq.out _ _ (⟨HS.cn.cell 28 (.int .i64 c.st) rfl,HS.row.cell 12 (.string ⟨(x::t).toArray⟩) rfl⟩) ?_;clear hKq Kq hZ;refine fun hZ=>wpA ?_;refine wpT 5 ?_;refine wpK 6 ?_;refine wpK 7 ?_;refine wpK 8 ?_;refine wpK 9 ?_;refine wpK 10 ?_;refine wpK 11 ?_;refine wpK 12 ?_;refine wpT2 13 14 ?_;refine wpD ?_ _;clear hZ;go_wp2_with fail;refine(tack_any f c _ HS.cn).mono ?_;rintro e w5⟨rfl,hc5,hch⟩;replace HS:=hid (HS.call hc5 hch);clear hc5 hch;go_wp2_with fail
   go_end0
   exact⟨rfl,HS.cn,HS.ch⟩
  | true =>
   rw[if_pos rfl]
   cases hi:c.insB off (x::t)with
   | true =>
    rw[if_pos rfl]
    go_enter Tryz.func116,Tryz.ntmps116
    go_wp2_with fail;change Code.wp _ _ _ _ (w.alloc (.cells (sgL (⟨g1,g2,g3,g4,g5,g6,g7,g8,g9,g10,g11,g12,x::t⟩,a,cap)).toArray 43));generalize w.alloc (.cells (sgL (⟨g1,g2,g3,g4,g5,g6,g7,g8,g9,g10,g11,g12,x::t⟩,a,cap)).toArray 43)=w1 at HS|-;refine wpB (fun W:World=>W.cell? ⟨f.C,28,none⟩=some (.int .i64 c.st)/\W.cell? ⟨w.heap.size,12,none⟩=some (.string ⟨(x::t).toArray⟩)) (⟨HS.cn.cell 28 (.int .i64 c.st) rfl,HS.row.cell 12 (.string ⟨(x::t).toArray⟩) rfl⟩) fun hZ=>?_;replace HS:=hid HS.drew;generalize w1.drew=w2 at HS hZ|-;refine wpT4 0 1 2 3 ?_;refine wpR 4 fun Kq hKq=> ?_;go_simp;refine(canReceive_any c.st _).mono ?_;rintro e w3⟨rfl,rfl⟩;rw[hc];go_simp;refine hKq.out _ _ (⟨HS.cn.cell 28 (.int .i64 c.st) rfl,HS.row.cell 12 (.string ⟨(x::t).toArray⟩) rfl⟩) ?_;clear hKq Kq hZ;refine fun hZ=>wpA ?_;refine wpT4 5 6 7 8 ?_;refine wpT2 9 10 ?_;refine wpT 11 ?_;refine wpR 12 fun Kq hKq=> ?_;go_simp;refine(tinsert_any f c off (x::t) _ HS.cn HO.o ho (by have:=HSL.o;omega)).mono ?_;rintro e w4⟨rfl,hc4,hch⟩;rw[hi];have HS4:=hid (HS.call hc4 hch);clear hc4 hch HS;go_simp;refine hKq.out _ _ (⟨HS4.cn.cell 28 (.int .i64 c.st) rfl,HS4.row.cell 12 (.string ⟨(x::t).toArray⟩) rfl⟩) ?_;clear hKq Kq hZ;refine fun hZ=>wpA ?_;refine wpT2 13 14 ?_;refine wpD ?_ _;clear hZ;go_wp2_with fail;refine(tackSoon_any f (c.insert off (x::t)) now _ HS4.cn).mono ?_;rintro e w5⟨rfl,hc5,hch⟩;replace HS4:=hid (HS4.call hc5 hch);clear hc5 hch;go_wp2_with fail
    go_end0
    exact⟨rfl,HS4.cn,HS4.ch⟩
   | false =>
    rw[if_neg (by simp)]
    go_enter Tryz.func116,Tryz.ntmps116
    go_wp2_with fail;change Code.wp _ _ _ _ (w.alloc (.cells (sgL (⟨g1,g2,g3,g4,g5,g6,g7,g8,g9,g10,g11,g12,x::t⟩,a,cap)).toArray 43));generalize w.alloc (.cells (sgL (⟨g1,g2,g3,g4,g5,g6,g7,g8,g9,g10,g11,g12,x::t⟩,a,cap)).toArray 43)=w1 at HS|-;refine wpB (fun W:World=>W.cell? ⟨f.C,28,none⟩=some (.int .i64 c.st)/\W.cell? ⟨w.heap.size,12,none⟩=some (.string ⟨(x::t).toArray⟩)) (⟨HS.cn.cell 28 (.int .i64 c.st) rfl,HS.row.cell 12 (.string ⟨(x::t).toArray⟩) rfl⟩) fun hZ=>?_;replace HS:=hid HS.drew;generalize w1.drew=w2 at HS hZ|-;refine wpT4 0 1 2 3 ?_;refine wpR 4 fun Kq hKq=> ?_;go_simp;refine(canReceive_any c.st _).mono ?_;rintro e w3⟨rfl,rfl⟩;rw[hc];go_simp;refine hKq.out _ _ (⟨HS.cn.cell 28 (.int .i64 c.st) rfl,HS.row.cell 12 (.string ⟨(x::t).toArray⟩) rfl⟩) ?_;clear hKq Kq hZ;refine fun hZ=>wpA ?_;refine wpT4 5 6 7 8 ?_;refine wpT2 9 10 ?_;refine wpT 11 ?_;refine wpR 12 fun Kq hKq=> ?_;go_simp;refine(tinsert_any f c off (x::t) _ HS.cn HO.o ho (by have:=HSL.o;omega)).mono ?_;rintro e w4⟨rfl,hc4,hch⟩;rw[hi];have HS4:=hid (HS.call hc4 hch);clear hc4 hch HS;go_simp;refine hKq.out _ _ (⟨HS4.cn.cell 28 (.int .i64 c.st) rfl,HS4.row.cell 12 (.string ⟨(x::t).toArray⟩) rfl⟩) ?_;clear hKq Kq hZ;refine fun hZ=>wpA ?_;refine wpT2 13 14 ?_;refine wpD ?_ _;clear hZ;go_wp2_with fail;refine(tack_any f (c.insert off (x::t)) _ HS4.cn).mono ?_;rintro e w5⟨rfl,hc5,hch⟩;replace HS4:=hid (HS4.call hc5 hch);clear hc5 hch;go_wp2_with fail
    go_end0
    exact⟨rfl,HS4.cn,HS4.ch⟩
def Cn.finA (c:Cn)(s:Sg)(off:Int):Cn:=if s.fin=true/\canRecv c.st=true/\c.ended=false/\c.bx.nx<=off+s.s.length then { c with ended:=true,fend:=off+s.s.length }else c
theorem Cn.finS_eq (c:Cn)(now:Int)(s:Sg)(off:Int):c.finS now s off=if(c.finA s off).reached=true/\(c.finA s off).over=false then({ c.finA s off with over:=true }.step now 6).ackNow else c.finA s off:=rfl
theorem Cn.finA_tries (c:Cn)(s:Sg)(off:Int):(c.finA s off).tries=c.tries:=by unfold Cn.finA;split <;> rfl
theorem Cn.Ok.finA {c:Cn}(h:c.Ok){s:Sg}{off:Int}(hs:(s.s.length:Int)<=1024-8*s.bl.length)(ho: -2147483648<=off/\off<=2147483647):(c.finA s off).Ok:=by
 unfold Cn.finA;split
 ·exact { h with fend:=by show _<=off+(s.s.length:Int)/\off+(s.s.length:Int)<=_;omega }
 exact h
theorem tfinS_any (f:Fp) (c:Cn) (now:Int) (s:Sg) (off:Int) (a:Option Addr) (cap:Nat) (w:World) (h:CnAt f c w) (ok:c.Ok) (hn:In64 now) (hs:s.Ok) (hb:BlIn w a s.bl) (ho: -2147483648<=off/\off<=2147483647) (ht:c.tries<=12) :
  Calls Tryz.prog 117 #[.pointer (some ⟨f.C,0,none⟩),.int .i64 now,sgV s a cap,.int .i64 off] w fun e w'=>e= .returned (.tuple #[])/\CnAt f (c.finS now s off) w'/\ChgF f w w':=by
 have HO:=hid ok;have HSL:=hid hs.slen;have hst:=ok.st;have hz:(⟨s.s.toArray⟩:ByteArray).size=s.s.length:=by simp[ByteArray.size]
 have hlt:=h.lt;have HN:=hid hn;have hsl:=hs.slen;have HT:=hid ht;have HS:=hid (Sw.start (x:=(s,a,cap)) h hb);clear h hb ok hs hn ht;unfold sgV;have HFQ:=hid (Cn.finS_eq c now s off);obtain⟨d,hd⟩:∃d,d=c.finA s off:=⟨_,rfl⟩;rw[<-hd]at HFQ;have HD:=hid hd;have HDO:=hid (show d.Ok/\d.tries<=12 from hd ▸ ⟨HO.finA HSL.o ho,Cn.finA_tries c s off ▸ HT.o⟩);clear hd
 go_enter Tryz.func117,Tryz.ntmps117
 go_upto_region 2 with fail
 change Code.wp _ _ _ _ (w.alloc (.cells (sgL (s,a,cap)).toArray 43));generalize w.alloc (.cells (sgL (s,a,cap)).toArray 43)=w1 at HS|-
 go_cut [40]from 14 to 41 (fun v40 wx=>v40= .bool (decide (s.fin=true/\canRecv c.st=true/\c.ended=false/\c.bx.nx<=off+s.s.length))/\wx=w1)
 case first =>
  have c5:=HS.row.cell 5 (.bool s.fin) rfl;by_cases hfin:s.fin=true
  ·rw[hfin]at c5;have HF:=hid hfin;clear hfin;have c28:=HS.cn.cell 28 (.int .i64 c.st) rfl;by_cases hc:canRecv c.st=true
   ·have hc2:canR c.st=true:=hc;have HCR:=hid hc;clear hc;have c15:=HS.cn.cell 15 (.bool c.ended) rfl;by_cases he:c.ended=false
    ·rw[he]at c15;have HEN:=hid (show c.ended=false from he);clear he;have c11:=HS.cn.cell 11 (.pointer (some ⟨f.X,0,none⟩)) rfl;have hnx:=HO.nxN;have hnx0:=Int.le_trans HO.bx.rd0 HO.bx.rdnx;by_cases hle:c.bx.nx<=off+s.s.length
     ·have hd:decide (c.bx.nx<=off+s.s.length)=true:=decide_eq_true hle;clear hle;go_wp2_with fail;refine(canReceive_any c.st _).mono ?_;rintro e w3⟨rfl,rfl⟩;rw[hc2];go_wp2_with fail;refine(next_any f.X f.R 0 c.bx _ HS.cn.bx).mono ?_;rintro e w4⟨rfl,rfl⟩;have HLE:=hid (decide_eq_true_iff.1 hd);go_wp2_with fail
      go_meet
      case rel=>exact⟨congrArg Value.bool (decide_eq_true ⟨HF.o,HCR.o,HEN.o,HLE.o⟩).symm,rfl⟩
     have hd:decide (c.bx.nx<=off+s.s.length)=false:=decide_eq_false hle;clear hle;go_wp2_with fail;refine(canReceive_any c.st _).mono ?_;rintro e w3⟨rfl,rfl⟩;rw[hc2];go_wp2_with fail;refine(next_any f.X f.R 0 c.bx _ HS.cn.bx).mono ?_;rintro e w4⟨rfl,rfl⟩;have HLE:=hid (decide_eq_false_iff_not.1 hd);go_wp2_with fail
     go_meet
     case rel=>exact⟨congrArg Value.bool (decide_eq_false (fun h=>absurd h.2.2.2 (Int.not_le.2 HLE.o))).symm,rfl⟩
    have he2:c.ended=true:=by simpa using he
    rw[he2]at c15;have HEN:=hid he;clear he he2;go_wp2_with fail;refine(canReceive_any c.st _).mono ?_;rintro e w3⟨rfl,rfl⟩;rw[hc2];go_wp2_with fail
    go_meet
    case rel=>exact⟨congrArg Value.bool (decide_eq_false (fun h=>HEN.o h.2.2.1)).symm,rfl⟩
   have hc2:canR c.st=false:=by simpa[canRecv,canR]using hc
   have HCR:=hid hc;clear hc;go_wp2_with fail;refine(canReceive_any c.st _).mono ?_;rintro e w3⟨rfl,rfl⟩;rw[hc2];go_wp2_with fail
   go_meet
   case rel=>exact⟨congrArg Value.bool (decide_eq_false (fun h=>HCR.o h.2.1)).symm,rfl⟩
  have hfin2:s.fin=false:=by simpa using hfin
  rw[hfin2]at c5;have HF:=hid hfin;clear hfin hfin2;go_wp2_with fail
  go_meet
  case rel=>exact⟨congrArg Value.bool (decide_eq_false (fun h=>HF.o h.1)).symm,rfl⟩
 case rest =>
  obtain⟨rfl,rfl⟩:=hcut
  go_upto_if 40 with fail
  go_cut []from 40 to 50 (fun wx=>Sw f w w.heap.size (s,a,cap) d wx)
  case first =>
   by_cases hp:s.fin=true/\canRecv c.st=true/\c.ended=false/\c.bx.nx<=off+s.s.length
   ·rw[decide_eq_true hp];have HE:=hid (show d={ c with ended:=true,fend:=off+s.s.length } by rw[HD.o];exact if_pos hp);have f15:=HS.cn.free 15;have f16:=HS.cn.free 16;have c15:=HS.cn.cell 15 (.bool c.ended) rfl;have c16:=HS.cn.cell 16 (.int .i64 c.fend) rfl;clear hp;go_wp2_with fail
    go_meet
    case rel=>exact(HS.call ((HS.cn.set 15 _ { c with ended:=true } rfl rfl rfl rfl rfl).set 16 _ { c with ended:=true,fend:=off+s.s.length } rfl rfl rfl rfl rfl) (.ofC (((Chg.refl _ _).setCell 15 _).setCell 16 _))).eq HE.o
   rw[decide_eq_false hp];have HE:=hid (show d=c by rw[HD.o];exact if_neg hp);clear hp;go_wp2_with fail
   go_meet
   case rel=>exact HS.eq HE.o
  case rest =>
   replace HS:=hid hcut;clear hcut HD
   cases hr:d.reached with
   | false =>
    go_wp2_with fail;refine(treached_any f d _ HS.cn).mono ?_;rintro e w3⟨rfl,hb⟩;replace HS:=hid (HS.bel hb);rw[hr];clear hb;go_wp2_with fail
    go_end0
    exact⟨rfl,by rw[HFQ.o,if_neg (by rw[hr];rintro⟨h,-⟩;cases h)];exact HS.cn,HS.ch⟩
   | true =>
    cases hv:d.over with
    | true =>
     go_wp2_with fail;refine(treached_any f d _ HS.cn).mono ?_;rintro e w3⟨rfl,hb⟩;replace HS:=hid (HS.bel hb);rw[hr];clear hb;have c17:=HS.cn.cell 17 (.bool d.over) rfl;rw[hv]at c17;go_wp2_with fail
     go_end0
     exact⟨rfl,by rw[HFQ.o,if_neg (by rw[hv];rintro⟨-,h⟩;cases h)];exact HS.cn,HS.ch⟩
    | false =>
     go_wp2_with fail;refine(treached_any f d _ HS.cn).mono ?_;rintro e w3⟨rfl,hb⟩;replace HS:=hid (HS.bel hb);rw[hr];clear hb;have c17:=HS.cn.cell 17 (.bool d.over) rfl;have f17:=HS.cn.free 17;rw[hv]at c17;have HS3:=hid (HS.call (HS.cn.set 17 (.bool true) { d with over:=true } rfl rfl rfl rfl rfl) (.ofC ((Chg.refl _ _).setCell 17 _)));have HST:=hid HDO.1.st;clear HS;go_wp2_with fail;refine(tstep_any f { d with over:=true } now 6 _ HS3.cn HST.o (by decide)).mono ?_;rintro e w5⟨rfl,hc5,hch⟩;replace HS:=hid (HS3.call hc5 hch);clear hc5 hch c17 f17 HS3;go_wp2_with fail;refine(tack_any f _ _ HS.cn).mono ?_;rintro e w6⟨rfl,hc6,hch⟩;replace HS:=hid (HS.call hc6 hch);clear hc6 hch;go_wp2_with fail
     go_end0
     exact⟨rfl,by rw[HFQ.o,if_pos ⟨hr,hv⟩];exact HS.cn,HS.ch⟩
end
section
set_option maxHeartbeats 8000000
set_option maxRecDepth 100000
open Go.RowKit Go.Shelf
theorem canonF_len3 {e n:Int}{L:List Sp}(h:canonF e L=true)(hm:∀i,Mem i L->i<n):2*(L.length:Int)<=max 0 (n-e):=by
 induction L generalizing e with
 | nil=>simp;omega
 | cons x l ih =>
  obtain⟨⟨h0,h1,h2,-⟩,h3⟩:=canonF_cons.1 h;have h4:=ih h3 (fun i hi=>hm i (mem_cons.2 (.inr hi)));have h5:=hm (x.2-1) (mem_cons.2 (.inl ⟨by omega,by omega⟩));rw[List.length_cons];omega
theorem Cn.Ok.sklen {c:Cn}(h:c.Ok):(c.sc.sk.length:Int)<=549755813889:=by
 have:=canonF_len3 (n:=c.next) h.sc.csk (fun i hi=>(h.sc.msk i hi).2);have:=h.una;omega
def spI (iss:Int)(b:Sp):Sp:=(diffV b.1 iss,diffV b.2 iss)
def repP (sacks:Bool)(next:Int)(x:Sp):Bool:=sacks&&decide (1<=x.1/\x.1<x.2/\x.2<=next)
theorem repS_step (sacks:Bool)(next iss:Int)(bl:List Sp)(k:Nat)(hk:k<bl.length) :
  repS sacks next iss (bl.take (k+1))=if repP sacks next (spI iss bl[k])=true then repS sacks next iss (bl.take k)++[spI iss bl[k]]else repS sacks next iss (bl.take k):=by
 unfold repS;rw[List.take_succ_eq_append_getElem hk,List.map_append,List.filter_append];show _++List.filter _ [spI iss bl[k]]=_;rw[List.filter_cons];show _++(if repP sacks next (spI iss bl[k])=true then _ else _)=_;split
 ·rfl
 rw[List.filter_nil,List.append_nil]
theorem repS_len (sacks:Bool)(next iss:Int)(bl:List Sp):(repS sacks next iss bl).length<=bl.length:=by
 unfold repS;refine Nat.le_trans (List.length_filter_le _ _) ?_;rw[List.length_map];exact Nat.le_refl _
theorem advF_take (ack:Int)(L:List Sp)(k:Nat)(hk:k<L.length):advF ack (L.take (k+1))=advF ack (L.take k)+max 0 (min L[k].2 ack-L[k].1):=by
 rw[List.take_succ_eq_append_getElem hk];generalize L.take k=T
 induction T with
 | nil=>simp[advF]
 | cons y T ih=>simp only[List.cons_append,advF,ih];omega
theorem advF_bd {ack e:Int}{L:List Sp}(h:canonF e L=true):∀k,0<=advF ack (L.take k)/\advF ack (L.take k)<=max 0 (1099511627776-e):=by
 induction L generalizing e with
 | nil=>intro k;simp[advF];omega
 | cons x l ih =>
  obtain⟨⟨h0,h1,h2,h3⟩,h4⟩:=canonF_cons.1 h;intro k
  cases k with
  | zero=>simp[advF];omega
  | succ k =>
   have:=ih h4 k;rw[List.take_succ_cons];simp only[advF];omega
theorem own_spAt {w:World}{base n cap:Nat}{a:Option Addr}{L:List Sp}(h:OwnSp w base (.slice a n cap) L)(hs:L.length<=1099511627776):SpAt w w.heap.size a L:=by
 obtain⟨a',cap',hv,hc,-⟩:=h.at hs
 cases hv
 exact hc
theorem canonF_spb {e:Int}{L:List Sp}(h:canonF e L=true){x:Sp}(hx:x∈L):0<=x.1/\x.1<x.2/\x.2<=1099511627776:=by
 induction L generalizing e with
 | nil=>cases hx
 | cons y l ih =>
  obtain⟨⟨h0,_,h2,h3⟩,h4⟩:=canonF_cons.1 h
  rcases List.mem_cons.1 hx with rfl | hx
  ·exact⟨h0,h2,h3⟩
  exact ih h4 hx
theorem ackN_bd {s:Sc}(h:s.Ok){ack:Int}{R:List Sp}(ha: -2147483648<=ack/\ack<=2147483647): -3298534883328<=s.ackN ack R/\s.ackN ack R<=3298534883328:=by
 unfold Sc.ackN;split
 ·rename_i hb;have h1:=countF_nonneg h.csk;have h2:=(h.acked ack R).csk;unfold Sc.acked at h2;rw[if_pos hb]at h2;have h3:=countF_nonneg h2;have:=h.u0;have:=h.un;have:=h.n40;omega
 omega
theorem treport_any (f:Fp) (c:Cn) (ack:Int) (bl:List Sp) (a:Option Addr) (cap:Nat) (w:World) (h:CnAt f c w) (ok:c.Ok) (hb:BlIn w a bl) (hl:bl.length<=3) (ha: -2147483648<=ack/\ack<=2147483647) :
  Calls Tryz.prog 158 #[.pointer (some ⟨f.C,0,none⟩),.int .i64 c.cf.iss,.int .i64 ack,.slice a bl.length cap] w fun e w'=>e= .returned (.int .i64 (c.repN ack bl))/\CnAt f (c.report ack bl) w'/\ChgF f w w':=by
 have HO:=hid ok;have hgt:=h.gl.top;have HC:=hid h;have HX:=hid (ChgF.refl f w);have HB:=hid hb;clear h hb ok
 go_enter Tryz.func158,Tryz.ntmps158
 go_wp2_with fail
 go_loopg [9,20] bl.length (fun g v9 kv wr=>∃k:Nat,kv= .int .i64 (k:Int)/\g+k=bl.length/\Below w.heap.size w wr/\OwnSp wr w.heap.size v9 (repS c.sacks c.next c.cf.iss (bl.take k)))
 case atStart=>exact⟨0,rfl,rfl,Below.refl _ _,OwnSp.nil _ _⟩
 case round =>
  obtain⟨k,rfl,hg,hb,ho⟩:=hrel;have HBW:=hid hb;have HOW:=hid ho;clear hb ho;by_cases hk:k<bl.length
  ·obtain⟨b,boff,rfl,hbl,hcs⟩:=(HB.keep HBW.size (.below HBW.o)).1.cells (by omega);obtain⟨d0,d1⟩:=hcs k hk;clear hcs;have hki:(k:Int)<(bl.length:Int):=by omega
   have HTK:=hid (repS_step c.sacks c.next c.cf.iss bl k hk);have HLN:=hid (show(repS c.sacks c.next c.cf.iss (bl.take k)).length<=3 from Nat.le_trans (repS_len _ _ _ _) (by rw[List.length_take];omega));generalize bl[k]=x at d0 d1 HTK;generalize repS c.sacks c.next c.cf.iss (bl.take k)=TL at HOW HTK HLN;obtain⟨x1,x2⟩:=x;dsimp only at d0 d1;go_wp2_with fail
   go_upto_region 5 with fail
   have hb1:=(((Below.refl wr.heap.size wr).alloc (Nat.le_refl _) (.cells #[.int .i64 x1,.int .i64 x2] 92)).alloc (by simp) (.cells #[.int .i64 (diffV x1 c.cf.iss),.int .i64 (diffV x2 c.cf.iss)] 92)).drew;have HB1:=hid (HBW.trans (hb1.mono HBW.size));have HOW1:=hid (HOW.bel hb1);clear hb1;have e0:=(At.new (B:=wr.heap.size+1) (W:=wr.alloc (.cells #[.int .i64 x1,.int .i64 x2] 92)) (i:=0) (v:=.int .i64 (diffV x1 c.cf.iss)) (vs:= #[.int .i64 (diffV x1 c.cf.iss),.int .i64 (diffV x2 c.cf.iss)]) 92 (by simp) rfl).1;have e1:=(At.new (B:=wr.heap.size+1) (W:=wr.alloc (.cells #[.int .i64 x1,.int .i64 x2] 92)) (i:=1) (v:=.int .i64 (diffV x2 c.cf.iss)) (vs:= #[.int .i64 (diffV x1 c.cf.iss),.int .i64 (diffV x2 c.cf.iss)]) 92 (by simp) rfl).1;have HE1:=hid e1;have HE0:=hid e0;clear e0 e1;have hsl:wr.heap.size+1<(((wr.alloc (.cells #[.int .i64 x1,.int .i64 x2] 92)).alloc (.cells #[.int .i64 (diffV x1 c.cf.iss),.int .i64 (diffV x2 c.cf.iss)] 92)).drew).heap.size:=by simp
   have HSL:=hid hsl;clear hsl
   go_cut [12]from 24 to 33 (fun v12 wx=>v12= .pointer (some ⟨wr.heap.size+1,0,none⟩)/\wx=((wr.alloc (.cells #[.int .i64 x1,.int .i64 x2] 92)).alloc (.cells #[.int .i64 (diffV x1 c.cf.iss),.int .i64 (diffV x2 c.cf.iss)] 92)).drew)
   case first =>
    go_region_with (first | (go_at_call 106;refine(diff_any _ _ _).mono ?_;rintro e w5⟨rfl,rfl⟩))
    all_goals
     go_wp2_with fail
     go_meet
     exact⟨rfl,rfl⟩
   case rest =>
    obtain⟨rfl,rfl⟩:=hcut;replace HE0:=hid (show(((wr.alloc (.cells #[.int .i64 x1,.int .i64 x2] 92)).alloc (.cells #[.int .i64 (diffV x1 c.cf.iss),.int .i64 (diffV x2 c.cf.iss)] 92)).drew).cell? ⟨wr.heap.size+1,0,none⟩=some (.int .i64 (diffV x1 c.cf.iss))from HE0.o);replace HE1:=hid (show(((wr.alloc (.cells #[.int .i64 x1,.int .i64 x2] 92)).alloc (.cells #[.int .i64 (diffV x1 c.cf.iss),.int .i64 (diffV x2 c.cf.iss)] 92)).drew).cell? ⟨wr.heap.size+1,1,none⟩=some (.int .i64 (diffV x2 c.cf.iss))from HE1.o);have hbase:w.heap.size<=wr.heap.size:=HBW.size;generalize ((wr.alloc (.cells #[.int .i64 x1,.int .i64 x2] 92)).alloc (.cells #[.int .i64 (diffV x1 c.cf.iss),.int .i64 (diffV x2 c.cf.iss)] 92)).drew=w1 at HB1 HOW1 HE0 HE1 HSL|-;generalize wr.heap.size=N1 at hbase HSL HE0 HE1|-;clear HBW HOW d0 d1 hbl;have hy1:=diffV_bd x1 c.cf.iss;have hy2:=diffV_bd x2 c.cf.iss;replace HTK:=hid (show repS c.sacks c.next c.cf.iss (bl.take (k+1))=if repP c.sacks c.next (diffV x1 c.cf.iss,diffV x2 c.cf.iss)=true then TL++[(diffV x1 c.cf.iss,diffV x2 c.cf.iss)]else TL from HTK.o);generalize diffV x1 c.cf.iss=y1 at HE0 HE1 HTK hy1;generalize diffV x2 c.cf.iss=y2 at HE1 HTK hy2;have hun:=HO.una;obtain⟨hun0,hun1,hun2⟩:=hun
    go_upto_region 6 with fail
    go_cut [55]from 33 to 56 (fun v55 wx=>v55= .bool (repP c.sacks c.next (y1,y2))/\Below w.heap.size w wx/\OwnSp wx w.heap.size u9 TL/\wx.cell? ⟨N1+1,0,none⟩=some (.int .i64 y1)/\wx.cell? ⟨N1+1,1,none⟩=some (.int .i64 y2)/\N1+1<wx.heap.size)
    case first =>
     by_cases hs:c.sacks=true
     ·by_cases h1:1<=y1
      focus
       by_cases h2:y1<y2
       ·by_cases h3:y2<=c.next
        ·have HQ:=hid (show true=repP c.sacks c.next (y1,y2) by unfold repP;rw[hs,Bool.true_and];exact(decide_eq_true ⟨h1,h2,h3⟩).symm);refine wpB (fun W:World=>W.cell? ⟨f.C,8,none⟩=some (.bool c.sacks)/\W.cell? ⟨N1+1,0,none⟩=some (.int .i64 y1)/\W.cell? ⟨N1+1,1,none⟩=some (.int .i64 y2)) (⟨(HC.below HB1.o).cell 8 (.bool c.sacks) rfl,HE0.o,HE1.o⟩) fun hZ=>?_;have hb:=(Below.refl w1.heap.size w1).drew;replace HE0:=hid ((hb.cell (p:=⟨N1+1,0,none⟩) HSL.o).trans HE0.o);replace HE1:=hid ((hb.cell (p:=⟨N1+1,1,none⟩) HSL.o).trans HE1.o);replace HSL:=hid (Nat.lt_of_lt_of_le HSL.o hb.size);replace HB1:=hid (HB1.trans (hb.mono HB1.size));replace HOW1:=hid (HOW1.bel hb);clear hb;generalize w1.drew=w2 at HE0 HE1 HSL HB1 HOW1 hZ|-;refine wpT2 0 1 ?_;refine wpT 2 ?_;refine wpT 3 (v:=.bool true) ?_ (hy:=by intro w hSw;(obtain⟨z0,z1,z2⟩:=hSw);rw[hs]at z0;go_simp);refine wpT2 4 5 ?_;refine wpT 6 ?_;refine wpT 7 (v:=.bool true) ?_ (hy:=by intro w hSw;(obtain⟨z0,z1,z2⟩:=hSw);go_simp;(try first | omega | (rw[decide_eq_true_iff];omega)));refine wpT4 8 9 10 11 ?_;refine wpT2 12 13 ?_;refine wpT 14 (v:=.bool true) ?_ (hy:=by intro w hSw;(obtain⟨z0,z1,z2⟩:=hSw);go_simp;(try first | omega | (rw[decide_eq_true_iff];omega)));refine wpT4 15 16 17 18 ?_;refine wpT 19 ?_;refine wpR 20 fun Kq hKq=> ?_;go_simp;refine(tnext_any f c _ (HC.below HB1.o)).mono ?_;rintro e w7⟨rfl,hb⟩;replace HE0:=hid ((hb.cell (p:=⟨N1+1,0,none⟩) HSL.o).trans HE0.o);replace HE1:=hid ((hb.cell (p:=⟨N1+1,1,none⟩) HSL.o).trans HE1.o);replace HSL:=hid (Nat.lt_of_lt_of_le HSL.o hb.size);replace HB1:=hid (HB1.trans (hb.mono HB1.size));replace HOW1:=hid (HOW1.bel hb);clear hb;go_simp;refine hKq.out _ _ (⟨(HC.below HB1.o).cell 8 (.bool c.sacks) rfl,HE0.o,HE1.o⟩) ?_;clear hKq Kq hZ;refine fun hZ=>wpA ?_;refine wpT 21 (v:=.bool true) ?_ (hy:=by intro w hSw;(obtain⟨z0,z1,z2⟩:=hSw);go_simp;(try first | omega | (rw[decide_eq_true_iff];omega)));refine wpT 22 ?_;refine wpD ?_ _;clear hZ;go_wp2_with fail
         go_meet
         case rel=>exact⟨congrArg Value.bool (HQ.o),HB1.o,HOW1.o,HE0.o,HE1.o,HSL.o⟩
        have HQ:=hid (show false=repP c.sacks c.next (y1,y2) by unfold repP;rw[hs,Bool.true_and];exact(decide_eq_false (fun h=>h3 h.2.2)).symm);refine wpB (fun W:World=>W.cell? ⟨f.C,8,none⟩=some (.bool c.sacks)/\W.cell? ⟨N1+1,0,none⟩=some (.int .i64 y1)/\W.cell? ⟨N1+1,1,none⟩=some (.int .i64 y2)) (⟨(HC.below HB1.o).cell 8 (.bool c.sacks) rfl,HE0.o,HE1.o⟩) fun hZ=>?_;have hb:=(Below.refl w1.heap.size w1).drew;replace HE0:=hid ((hb.cell (p:=⟨N1+1,0,none⟩) HSL.o).trans HE0.o);replace HE1:=hid ((hb.cell (p:=⟨N1+1,1,none⟩) HSL.o).trans HE1.o);replace HSL:=hid (Nat.lt_of_lt_of_le HSL.o hb.size);replace HB1:=hid (HB1.trans (hb.mono HB1.size));replace HOW1:=hid (HOW1.bel hb);clear hb;generalize w1.drew=w2 at HE0 HE1 HSL HB1 HOW1 hZ|-;refine wpT2 0 1 ?_;refine wpT 2 ?_;refine wpT 3 (v:=.bool true) ?_ (hy:=by intro w hSw;(obtain⟨z0,z1,z2⟩:=hSw);rw[hs]at z0;go_simp);refine wpT2 4 5 ?_;refine wpT 6 ?_;refine wpT 7 (v:=.bool true) ?_ (hy:=by intro w hSw;(obtain⟨z0,z1,z2⟩:=hSw);go_simp;(try first | omega | (rw[decide_eq_true_iff];omega)));refine wpT4 8 9 10 11 ?_;refine wpT2 12 13 ?_;refine wpT 14 (v:=.bool true) ?_ (hy:=by intro w hSw;(obtain⟨z0,z1,z2⟩:=hSw);go_simp;(try first | omega | (rw[decide_eq_true_iff];omega)));refine wpT4 15 16 17 18 ?_;refine wpT 19 ?_;refine wpR 20 fun Kq hKq=> ?_;go_simp;refine(tnext_any f c _ (HC.below HB1.o)).mono ?_;rintro e w7⟨rfl,hb⟩;replace HE0:=hid ((hb.cell (p:=⟨N1+1,0,none⟩) HSL.o).trans HE0.o);replace HE1:=hid ((hb.cell (p:=⟨N1+1,1,none⟩) HSL.o).trans HE1.o);replace HSL:=hid (Nat.lt_of_lt_of_le HSL.o hb.size);replace HB1:=hid (HB1.trans (hb.mono HB1.size));replace HOW1:=hid (HOW1.bel hb);clear hb;go_simp;refine hKq.out _ _ (⟨(HC.below HB1.o).cell 8 (.bool c.sacks) rfl,HE0.o,HE1.o⟩) ?_;clear hKq Kq hZ;refine fun hZ=>wpA ?_;refine wpT 21 (v:=.bool false) ?_ (hy:=by intro w hSw;(obtain⟨z0,z1,z2⟩:=hSw);go_simp;(try first | omega | (rw[decide_eq_false_iff_not];omega)));refine wpT 22 ?_;refine wpD ?_ _;clear hZ;go_wp2_with fail
        go_meet
        case rel=>exact⟨congrArg Value.bool (HQ.o),HB1.o,HOW1.o,HE0.o,HE1.o,HSL.o⟩
       have HQ:=hid (show false=repP c.sacks c.next (y1,y2) by unfold repP;rw[hs,Bool.true_and];exact(decide_eq_false (fun h=>h2 h.2.1)).symm);refine wpB (fun W:World=>W.cell? ⟨f.C,8,none⟩=some (.bool c.sacks)/\W.cell? ⟨N1+1,0,none⟩=some (.int .i64 y1)/\W.cell? ⟨N1+1,1,none⟩=some (.int .i64 y2)) (⟨(HC.below HB1.o).cell 8 (.bool c.sacks) rfl,HE0.o,HE1.o⟩) fun hZ=>?_;have hb:=(Below.refl w1.heap.size w1).drew;replace HE0:=hid ((hb.cell (p:=⟨N1+1,0,none⟩) HSL.o).trans HE0.o);replace HE1:=hid ((hb.cell (p:=⟨N1+1,1,none⟩) HSL.o).trans HE1.o);replace HSL:=hid (Nat.lt_of_lt_of_le HSL.o hb.size);replace HB1:=hid (HB1.trans (hb.mono HB1.size));replace HOW1:=hid (HOW1.bel hb);clear hb;generalize w1.drew=w2 at HE0 HE1 HSL HB1 HOW1 hZ|-;refine wpT2 0 1 ?_;refine wpT 2 ?_;refine wpT 3 (v:=.bool true) ?_ (hy:=by intro w hSw;(obtain⟨z0,z1,z2⟩:=hSw);rw[hs]at z0;go_simp);refine wpT2 4 5 ?_;refine wpT 6 ?_;refine wpT 7 (v:=.bool true) ?_ (hy:=by intro w hSw;(obtain⟨z0,z1,z2⟩:=hSw);go_simp;(try first | omega | (rw[decide_eq_true_iff];omega)));refine wpT4 8 9 10 11 ?_;refine wpT2 12 13 ?_;refine wpT 14 (v:=.bool false) ?_ (hy:=by intro w hSw;(obtain⟨z0,z1,z2⟩:=hSw);go_simp;(try first | omega | (rw[decide_eq_false_iff_not];omega)))
      rotate_left 1
      focus
       have HQ:=hid (show false=repP c.sacks c.next (y1,y2) by unfold repP;rw[hs,Bool.true_and];exact(decide_eq_false (fun h=>h1 h.1)).symm);refine wpB (fun W:World=>W.cell? ⟨f.C,8,none⟩=some (.bool c.sacks)/\W.cell? ⟨N1+1,0,none⟩=some (.int .i64 y1)/\W.cell? ⟨N1+1,1,none⟩=some (.int .i64 y2)) (⟨(HC.below HB1.o).cell 8 (.bool c.sacks) rfl,HE0.o,HE1.o⟩) fun hZ=>?_;have hb:=(Below.refl w1.heap.size w1).drew;replace HE0:=hid ((hb.cell (p:=⟨N1+1,0,none⟩) HSL.o).trans HE0.o);replace HE1:=hid ((hb.cell (p:=⟨N1+1,1,none⟩) HSL.o).trans HE1.o);replace HSL:=hid (Nat.lt_of_lt_of_le HSL.o hb.size);replace HB1:=hid (HB1.trans (hb.mono HB1.size));replace HOW1:=hid (HOW1.bel hb);clear hb;generalize w1.drew=w2 at HE0 HE1 HSL HB1 HOW1 hZ|-;refine wpT2 0 1 ?_;refine wpT 2 ?_;refine wpT 3 (v:=.bool true) ?_ (hy:=by intro w hSw;(obtain⟨z0,z1,z2⟩:=hSw);rw[hs]at z0;go_simp);refine wpT2 4 5 ?_;refine wpT 6 ?_;refine wpT 7 (v:=.bool false) ?_ (hy:=by intro w hSw;(obtain⟨z0,z1,z2⟩:=hSw);go_simp;(try first | omega | (rw[decide_eq_false_iff_not];omega)));refine wpT2 8 9 ?_;refine wpK 10 ?_;refine wpK 11 ?_;refine wpK 12 ?_;refine wpK 13 ?_;refine wpK 14 ?_
      all_goals
       refine wpT2 15 16 ?_;refine wpK 17 ?_;refine wpK 18 ?_;refine wpK 19 ?_;refine wpK 20 ?_;refine wpK 21 ?_;refine wpT 22 ?_;refine wpD ?_ _;clear hZ;go_wp2_with fail
       go_meet
       case rel=>exact⟨congrArg Value.bool (HQ.o),HB1.o,HOW1.o,HE0.o,HE1.o,HSL.o⟩
     have hs2:c.sacks=false:=by simpa using hs
     have HQ:=hid (show false=repP c.sacks c.next (y1,y2) by unfold repP;rw[hs2];rfl);refine wpB (fun W:World=>W.cell? ⟨f.C,8,none⟩=some (.bool c.sacks)/\W.cell? ⟨N1+1,0,none⟩=some (.int .i64 y1)/\W.cell? ⟨N1+1,1,none⟩=some (.int .i64 y2)) (⟨(HC.below HB1.o).cell 8 (.bool c.sacks) rfl,HE0.o,HE1.o⟩) fun hZ=>?_;have hb:=(Below.refl w1.heap.size w1).drew;replace HE0:=hid ((hb.cell (p:=⟨N1+1,0,none⟩) HSL.o).trans HE0.o);replace HE1:=hid ((hb.cell (p:=⟨N1+1,1,none⟩) HSL.o).trans HE1.o);replace HSL:=hid (Nat.lt_of_lt_of_le HSL.o hb.size);replace HB1:=hid (HB1.trans (hb.mono HB1.size));replace HOW1:=hid (HOW1.bel hb);clear hb;generalize w1.drew=w2 at HE0 HE1 HSL HB1 HOW1 hZ|-;refine wpT2 0 1 ?_;refine wpT 2 ?_;refine wpT 3 (v:=.bool false) ?_ (hy:=by intro w hSw;(obtain⟨z0,z1,z2⟩:=hSw);rw[hs2]at z0;go_simp);refine wpT 4 ?_;refine wpK 5 ?_;refine wpK 6 ?_;refine wpK 7 ?_;refine wpT2 8 9 ?_;refine wpK 10 ?_;refine wpK 11 ?_;refine wpK 12 ?_;refine wpK 13 ?_;refine wpK 14 ?_;refine wpT2 15 16 ?_;refine wpK 17 ?_;refine wpK 18 ?_;refine wpK 19 ?_;refine wpK 20 ?_;refine wpK 21 ?_;refine wpT 22 ?_;refine wpD ?_ _;clear hZ;go_wp2_with fail
     go_meet
     case rel=>exact⟨congrArg Value.bool (HQ.o),HB1.o,HOW1.o,HE0.o,HE1.o,HSL.o⟩
    case rest =>
     obtain⟨rfl,hb,ho,e0,e1,hsl⟩:=hcut;have HBW:=hid hb;have HOW:=hid ho;have hsx:=hb.size;clear hb ho HB1 HOW1 HE0 HE1 HSL hy1 hy2;generalize repP c.sacks c.next (y1,y2)=q at HTK
     cases q with
     | false =>
      go_wp2_with fail
      go_roundg (gk-1)
      case measure=>omega
      case rel=>exact⟨k+1,by go_num,by omega,HBW.o,by rw[HTK.o];exact HOW.o⟩
     | true =>
      have HLN2:=hid (show TL.length<=4398046511104 from Nat.le_trans HLN.o (by decide))
      go_wp2_with (first | (at_builtin;refine wpList_append_span _ rfl _ _ rfl w.heap.size _ _ rfl (HOW.alloc _) HLN2.o _ (y1,y2) rfl (by simp) (by simp) (by simp;omega) ?_;intro v4 w4 ho4 hg4 hb4))
      have hb5:=grown_below (N:=w.heap.size) hg4 (by simp;omega) (fun j e=>(HOW.lt j e).1);have HB5:=hid ((HBW.trans (((Below.refl _ _).alloc (Nat.le_refl _) _).mono HBW.size)).trans hb5);clear hb5 hb4 hg4 e0 e1;have HOW4:=hid ho4;clear ho4;go_wp2_with fail
      go_roundg (gk-1)
      case measure=>omega
      case rel=>exact⟨k+1,by go_num,by omega,HB5.o,by rw[HTK.o];exact HOW4.o⟩
  obtain rfl:k=bl.length:=by omega
  rw[List.take_length]at HOW;obtain⟨R,hR⟩:∃R,R=repS c.sacks c.next c.cf.iss bl:=⟨_,rfl⟩;rw[<-hR]at HOW;have HRL:=hid (show R.length<=3 from hR ▸ Nat.le_trans (repS_len _ _ _ _) hl);have HR:=hid hR;clear hR hk;obtain⟨ra,rc,rfl,hrc⟩:=HOW.val;clear hrc;have HC1:=hid (HC.below HBW.o);have hun:=HO.una;obtain⟨hun0,hun1,hun2⟩:=hun;obtain⟨ha1,ha2⟩:=ha;go_wp2_with fail;refine(tuna_any f c _ HC1.o).mono ?_;rintro e w1⟨rfl,hb⟩;replace HC1:=hid (HC1.below hb);replace HBW:=hid (HBW.trans (hb.mono HBW.size));replace HOW:=hid (HOW.bel hb);clear hb;have c0:=HC1.cell 0 (.pointer (some ⟨f.S,0,none⟩)) rfl;go_wp2_with fail;refine(scsacked_any f.S (f.S+1) c.sc _ HC1.sc).mono ?_;rintro e w2⟨v,rfl,ho,hb⟩;have hskl:=HO.sklen;obtain⟨sa,sc,rfl,hsc⟩:=ho.val;clear hsc;have HSP:=hid (show SpAt w2 w2.heap.size sa c.sc.sk from own_spAt ho (by omega));replace HC1:=hid (HC1.below hb);replace HBW:=hid (HBW.trans (hb.mono HBW.size));replace HOW:=hid (HOW.bel hb);clear hb ho c0;have HCN:=hid HO.sc.csk;go_wp2_with fail
  go_loopg [13,71] c.sc.sk.length (fun g v13 kv wr=>∃k:Nat,kv= .int .i64 (k:Int)/\g+k=c.sc.sk.length/\v13= .int .i64 (ack-c.una-advF ack (c.sc.sk.take k))/\Below w2.heap.size w2 wr)
  case atStart=>exact⟨0,rfl,rfl,by rw[List.take_zero];unfold advF;rw[Int.sub_zero],Below.refl _ _⟩
  case round =>
   obtain⟨k,rfl,hg,rfl,hb⟩:=hrel;have HB2:=hid hb;clear hb;have hav:=advF_bd (ack:=ack) HCN.o k;by_cases hk:k<c.sc.sk.length
   ·obtain⟨b,boff,rfl,hbl,hcs⟩:=(HSP.below HB2.o).cells (by omega);obtain⟨d0,d1⟩:=hcs k hk;clear hcs;have hki:(k:Int)<(c.sc.sk.length:Int):=by omega
    have HTK:=hid (advF_take ack c.sc.sk k hk);have hav2:=advF_bd (ack:=ack) HCN.o (k+1);have hxb:=canonF_spb HCN.o (List.getElem_mem hk);generalize advF ack (c.sc.sk.take k)=T at HTK hav;rw[HTK.o]at hav2;generalize c.sc.sk[k]=x at d0 d1 HTK hav2 hxb;obtain⟨x1,x2⟩:=x;dsimp only at d0 d1 hav2 hxb;go_wp2_with fail
    go_roundg (gk-1)
    case measure=>omega
    case rel=>exact⟨k+1,by go_num,by omega,by rw[HTK.o];go_num,HB2.trans (((Below.refl _ _).alloc (Nat.le_refl _) _).mono HB2.size)⟩
   obtain rfl:k=c.sc.sk.length:=by omega
   rw[List.take_length]at hav|-;have hb:=HB2.o;replace HC1:=hid (HC1.below hb);replace HBW:=hid (HBW.trans (hb.mono HBW.size));replace HOW:=hid (HOW.bel hb);clear hb HB2 HSP;have c0:=HC1.cell 0 (.pointer (some ⟨f.S,0,none⟩)) rfl;go_wp2_with fail;refine(scacked_any f.S (f.S+1) c.sc ack ra rc R _ HO.sc HC1.sc ⟨own_spAt HOW.o (by have:=HRL.o;omega),fun hp ad e=>(HOW.ty ad e).ne HC1.tyS (by decide)⟩ (by rw[List.length_append];have:=HRL.o;omega)).mono ?_;rintro e w4⟨rfl,hs,hc⟩;have hnb:=ackN_bd HO.sc (R:=R) ⟨ha1,ha2⟩;have HE:=hid (show c.repN ack bl=c.sc.ackN ack R-(ack-c.una-advF ack c.sc.sk) by unfold Cn.repN;rw[HR.o]);generalize c.sc.ackN ack R=an at hnb HE|-;have HC2:=hid (HC1.onS hs hc);have HX2:=hid ((ChgF.ofB HBW.o).trans (.ofS hc));clear hs hc;go_wp2;go_ret;exact⟨by rw[HE.o];rfl,by have:=HC2.o;rw[HR.o]at this;exact this,HX2.o⟩
end
section
set_option maxHeartbeats 8000000
set_option maxRecDepth 100000
open Go.RowKit Go.Shelf
theorem Sw.pre {f:Fp}{c:Cn}{w0 W V:World}{B:Nat}{x:SgM}(h:Sw f W B x c V)(hx:ChgF f w0 W):Sw f w0 B x c V:=⟨h.cn,hx.trans h.ch,h.row,h.bl,h.top⟩
def Cn.ackE (r:Cn)(una ack:Int):Cn:=if 0<ack-max una 1 then { r with cg:=r.cg.acked (ack-max una 1) ack }else r
def Cn.ackA (r:Cn)(now una ack:Int):Cn:=if una<ack then(Cn.ackE { r with dl:=al0,tm:=r.tm.acked now ack } una ack).drop ack else r
def Cn.ackL (b:Cn)(ack sacked flight:Int):Cn:=if 0<sacked/\b.mark<=ack/\b.sc.lost b.mss≠[]then { b with cg:=b.cg.lost flight b.next }else b
def Cn.ackD (c:Cn)(now:Int)(s:Sg)(ack:Int):Cn:=(((c.report ack s.bl).ackA now c.una ack).announce ack s.win).ackL ack (c.repN ack s.bl) c.flight
def Cn.acked0 (c:Cn)(now:Int)(s:Sg)(ack:Int):Cn:=if ack<c.una then c else if c.una<=c.last/\c.last<ack then(c.ackD now s ack).step now 7 else c.ackD now s ack
theorem Cn.acked_0 (c:Cn)(now:Int)(s:Sg)(ack:Int):c.acked now s ack=Cn.acked0 { c with tries:=0 } now s ack:=rfl
namespace Cn.Ok
variable {c : Cn}
theorem ackE (h:c.Ok)(una ack:Int):(c.ackE una ack).Ok:=by
 unfold Cn.ackE;split
 ·exact h.onCg (Cg.acked_ok h.cg _ _)
 exact h
theorem ackA (h:c.Ok)(now una ack:Int):(c.ackA now una ack).Ok:=by
 unfold Cn.ackA;split
 ·exact(((h.onDl al0_ok).onTm (Tm.acked_fit h.tm now ack)).ackE _ _).drop _
 exact h
theorem ackL (h:c.Ok)(ack sacked flight:Int):(c.ackL ack sacked flight).Ok:=by
 unfold Cn.ackL;split
 ·exact h.onCg (Cg.lost_ok h.cg _ h.in64n)
 exact h
end Cn.Ok
theorem repN_bd {c:Cn}(h:c.Ok){ack:Int}{bl:List Sp}(ha: -2147483648<=ack/\ack<=2147483647): -8796093022208<=c.repN ack bl/\c.repN ack bl<=8796093022208:=by
 unfold Cn.repN;have h1:=ackN_bd h.sc (R:=repS c.sacks c.next c.cf.iss bl) ha;have h2:=advF_bd (ack:=ack) h.sc.csk c.sc.sk.length;rw[List.take_length]at h2;have:=h.una;omega
theorem tacked_any (f:Fp) (c':Cn) (now:Int) (s:Sg) (ack:Int) (a:Option Addr) (cap:Nat) (w:World) (h:CnAt f c' w) (ok:c'.Ok) (hn:In64 now) (hs:s.Ok) (hb:BlIn w a s.bl) (ha: -2147483648<=ack/\ack<=2147483647) :
  Calls Tryz.prog 112 #[.pointer (some ⟨f.C,0,none⟩),.int .i64 now,sgV s a cap,.int .i64 ack] w fun e w'=>e= .returned (.tuple #[])/\CnAt f (c'.acked now s ack) w'/\ChgF f w w':=by
 have HN:=hid hn;have HWN:=hid hs.win;have HBL:=hid hs.blen;have hlt:=h.lt;have c33:=h.cell 33 (.int .i64 c'.tries) rfl;have f33:=h.free 33;have hA:=h.set 33 (.int .i64 0) { c' with tries:=0 } rfl rfl rfl rfl rfl;have hX:ChgF f w (w.setCell ⟨f.C,33,none⟩ (.int .i64 0)):=.ofC ((Chg.refl _ _).setCell 33 _);have hS:=(Sw.start (x:=(s,a,cap)) hA (hb.chgF h hX)).pre hX;rw[World.size_setCell]at hS;have HO:=hid ok.tries0;have HE:=hid (Cn.acked_0 c' now s ack);obtain⟨c,hc0⟩:∃c:Cn,c={ c' with tries:=0 }:=⟨_,rfl⟩;rw[<-hc0]at hS HO HE;have HS:=hid hS;clear hS hA hX hc0 h hb ok hs hn;unfold sgV;obtain⟨ha1,ha2⟩:=ha
 go_enter Tryz.func112,Tryz.ntmps112
 go_wp2_with fail;change Calls _ _ _ ((w.setCell ⟨f.C,33,none⟩ (.int .i64 0)).alloc (.cells (sgL (s,a,cap)).toArray 43)) _;generalize ((w.setCell ⟨f.C,33,none⟩ (.int .i64 0)).alloc (.cells (sgL (s,a,cap)).toArray 43))=w1 at HS|-;clear c33 f33 hlt;refine(tuna_any f c _ HS.cn).mono ?_;rintro e w2⟨rfl,hb⟩;replace HS:=hid (HS.bel hb);clear hb;have hun:=HO.una;obtain⟨hun0,hun1,hun2⟩:=hun;by_cases h1:ack<c.una
 ·have hd:decide (ack<c.una)=true:=decide_eq_true h1;have H1:=hid h1;clear h1;go_wp2_with fail;exact bodyPost_ret (results_none rfl _ _ _) rfl ⟨rfl,by rw[HE.o];unfold Cn.acked0;rw[if_pos H1.o];exact HS.cn,HS.ch⟩
 have hd:decide (ack<c.una)=false:=decide_eq_false h1;have H1:=hid h1;clear h1;replace HE:=hid (show c'.acked now s ack=if c.una<=c.last/\c.last<ack then(c.ackD now s ack).step now 7 else c.ackD now s ack by rw[HE.o];exact if_neg H1.o);go_wp2_with fail;refine(tflight_any f c _ HS.cn HO.sc).mono ?_;rintro e w3⟨rfl,hb⟩;replace HS:=hid (HS.bel hb);clear hb;clear hd;have hfl:=HO.flight;have HLB:=hid (show -1099511627776<=c.base/\c.base<=1099511627776 by have:=HO.b0;have:=HO.base1;omega);have HLL:=hid (show c.held.length<=1099511627776 by have:=HO.hlen;omega);go_wp2_with fail;refine(tlast_any f c _ HS.cn HLB.o HLL.o).mono ?_;rintro e w4⟨rfl,rfl⟩;replace HS:=hid HS.drew;generalize w3.drew=w4 at HS|-;have hlast:0<=c.last/\c.last<=1073741824:=by have:=HO.b0;have:=HO.b1;unfold Cn.last at this|-;omega
 go_wp2_with fail;refine wpB (fun W:World=>W.cell? ⟨f.C,24,none⟩=some (.int .i64 c.cf.iss)/\W.cell? ⟨w.heap.size,11,none⟩=some (.slice a s.bl.length cap)) (⟨HS.cn.cell 24 (.int .i64 c.cf.iss) rfl,HS.row.cell 11 (.slice a s.bl.length cap) rfl⟩) fun hZ=>?_;replace HS:=hid HS.drew;generalize w4.drew=w4d at HS hZ|-;refine wpT4 0 1 2 3 ?_;refine wpT4 4 5 6 7 ?_;refine wpT2 8 9 ?_;refine wpT 10 ?_;refine wpR 11 fun Kq hKq=> ?_;go_simp;refine(treport_any f c ack s.bl a cap _ HS.cn HO.o HS.bl HBL.o ⟨ha1,ha2⟩).mono ?_;rintro e w5⟨rfl,hc,hch⟩;have HR:=hid (HS.call hc hch);clear hc hch;go_simp;refine hKq.out _ _ (⟨HR.cn.cell 24 (.int .i64 c.cf.iss) rfl,HR.row.cell 11 (.slice a s.bl.length cap) rfl⟩) ?_;clear hKq Kq hZ;refine fun hZ=>wpA ?_;refine wpT 12 ?_;refine wpD ?_ _;clear hZ HS;have HRO:=hid (HO.report ack s.bl);have hnb:=repN_bd HO.o (bl:=s.bl) ⟨ha1,ha2⟩;have HDD:=hid (show c.ackD now s ack=(((c.report ack s.bl).ackA now c.una ack).announce ack s.win).ackL ack (c.repN ack s.bl) c.flight from rfl);generalize c.repN ack s.bl=sk at HDD hnb|-;generalize c.report ack s.bl=r at HDD HRO HR;have HS:=hid HR.o;clear HR
 go_upto_if 45 with fail
 go_cut []from 45 to 77 (fun wx=>Sw f w w.heap.size (s,a,cap) (r.ackA now c.una ack) wx)
 case first =>
  by_cases h2:c.una<ack
  ·have HA:=hid (show r.ackA now c.una ack=(Cn.ackE { r with dl:=al0,tm:=r.tm.acked now ack } c.una ack).drop ack from if_pos h2);have c1:=HS.cn.cell 1 (.pointer (some ⟨f.T,0,none⟩)) rfl;have c30:=HS.cn.cell 30 (.bool r.dl.set) rfl;have c31:=HS.cn.cell 31 (.int .i64 r.dl.since) rfl;have c32:=HS.cn.cell 32 (.int .i64 r.dl.ticks) rfl;have f30:=HS.cn.free 30;have f31:=HS.cn.free 31;have f32:=HS.cn.free 32;have HS2:=hid (HS.call (((HS.cn.set 30 (.bool false) { r with dl:=⟨false,r.dl.since,r.dl.ticks⟩ } rfl rfl rfl rfl rfl).set 31 (.int .i64 0) { r with dl:=⟨false,0,r.dl.ticks⟩ } rfl rfl rfl rfl rfl).set 32 (.int .i64 0) { r with dl:=al0 } rfl rfl rfl rfl rfl) (.ofC ((((Chg.refl _ _).setCell 30 _).setCell 31 _).setCell 32 _)));go_wp2_with fail;refine(acked_any f.T r.tm now ack HN.o HRO.tm _ HS2.cn.tm).mono ?_;rintro e w6⟨rfl,ht,hc⟩;replace HS:=hid (HS2.call (HS2.cn.onT ht hc) (.ofT hc));clear ht hc HS2 c1 c30 c31 c32 f30 f31 f32;have HO2:=hid ((HRO.onDl al0_ok).onTm (Tm.acked_fit HRO.tm now ack));obtain⟨d,hdd⟩:∃d:Cn,d={ r with dl:=al0,tm:=r.tm.acked now ack }:=⟨_,rfl⟩;replace HS:=hid (HS.eq (d:=d) hdd);rw[<-hdd]at HA HO2;clear hdd
   go_upto_if 63 with fail
   go_cut []from 63 to 72 (fun wx=>Sw f w w.heap.size (s,a,cap) (d.ackE c.una ack) wx)
   case first =>
    by_cases h3:0<ack-max c.una 1
    ·have HA2:=hid (show d.ackE c.una ack={ d with cg:=d.cg.acked (ack-max c.una 1) ack }from if_pos h3);have c2:=HS.cn.cell 2 (.pointer (some ⟨f.G,0,none⟩)) rfl;go_wp2_with fail;refine(cgAcked_any f.G d.cg (ack-max c.una 1) ack HO2.cg _ HS.cn.cg).mono ?_;rintro e w7⟨rfl,hg,hc⟩;replace HS:=hid (HS.call (HS.cn.onG hg hc) (.ofG hc));clear hg hc;go_wp2_with fail
     go_meet
     case rel=>exact HS.eq HA2.o
    have HA2:=hid (show d.ackE c.una ack=d from if_neg h3);go_wp2_with fail
    go_meet
    case rel=>exact HS.eq HA2.o
   case rest =>
    replace HS:=hid hcut;have HO3:=hid (HO2.ackE c.una ack);generalize d.ackE c.una ack=d2 at HS HA HO3;clear hcut;have HLB2:=hid (show -1099511627776<=d2.base/\d2.base<=1099511627776 by have:=HO3.b0;have:=HO3.base1;omega);have HLL2:=hid (show d2.held.length<=1099511627776 by have:=HO3.hlen;omega);go_wp2_with fail;refine(tdrop_any f d2 ack _ HS.cn HLB2.o HLL2.o (by omega)).mono ?_;rintro e w8⟨rfl,hc,hch⟩;replace HS:=hid (HS.call hc hch);clear hc hch;go_wp2_with fail
    go_meet
    case rel=>exact HS.eq HA.o
  have HA:=hid (show r.ackA now c.una ack=r from if_neg h2);go_wp2_with fail
  go_meet
  case rel=>exact HS.eq HA.o
 case rest =>
  replace HS:=hid hcut;have HAO:=hid (HRO.ackA now c.una ack);generalize r.ackA now c.una ack=d at HS HAO HDD;clear hcut HRO;obtain⟨hw1,hw2⟩:=HWN.o;go_wp2_with fail;refine wpB (fun W:World=>W.cell? ⟨w.heap.size,8,none⟩=some (.int .i64 s.win)) (HS.row.cell 8 (.int .i64 s.win) rfl) fun hZ=>?_;replace HS:=hid HS.drew;generalize wc.drew=wcd at HS hZ|-;refine wpT4 0 1 2 3 ?_;refine wpT2 4 5 ?_;refine wpR 6 fun Kq hKq=> ?_;go_simp;refine(tannounce_any f d ack s.win _ HS.cn (by omega) ⟨hw1,hw2⟩).mono ?_;rintro e w9⟨rfl,hc,hch⟩;have HR:=hid (HS.call hc hch);clear hc hch;go_simp;refine hKq.out _ _ (HR.row.cell 8 (.int .i64 s.win) rfl) ?_;clear hKq Kq hZ;refine fun hZ=>wpA ?_;refine wpD ?_ _;clear hZ HS;have HBO:=hid (HAO.announce (show ack<=1099511562240 by omega) ⟨hw1,hw2⟩);generalize d.announce ack s.win=b at HR HBO HDD;clear HAO;have HS:=hid HR.o;clear HR;obtain⟨hmk1,hmk2⟩:=HBO.mark
  go_upto_region 15 with fail
  go_cut [109]from 84 to 110 (fun v wx=>v= .bool (decide (0<sk/\b.mark<=ack/\b.sc.lost b.mss≠[]))/\Sw f w w.heap.size (s,a,cap) b wx)
  case first =>
   by_cases h4:0<sk
   ·by_cases h5:b.mark<=ack
    ·by_cases h6:b.sc.lost b.mss=[]
     ·have hl0:(b.sc.lost b.mss).length=0:=by rw[h6];rfl
      refine wpB (fun W:World=>W.cell? ⟨f.C,10,none⟩=some (.int .i64 b.mark)/\W.cell? ⟨f.C,0,none⟩=some (.pointer (some ⟨f.S,0,none⟩))/\W.cell? ⟨f.C,7,none⟩=some (.int .i64 b.mss)) (⟨HS.cn.cell 10 (.int .i64 b.mark) rfl,HS.cn.cell 0 (.pointer (some ⟨f.S,0,none⟩)) rfl,HS.cn.cell 7 (.int .i64 b.mss) rfl⟩) fun hZ=>?_;replace HS:=hid HS.drew;generalize w9.drew=w9d at HS hZ|-;refine wpT 0 ?_;refine wpT 1 (v:=.bool true) ?_ (hy:=by intro w hSw;(obtain⟨z0,z1,z2⟩:=hSw);go_simp;(try first | omega | (rw[decide_eq_true_iff];omega)));refine wpT4 2 3 4 5 ?_;refine wpT2 6 7 ?_;refine wpT 8 ?_;refine wpT 9 (v:=.bool true) ?_ (hy:=by intro w hSw;(obtain⟨z0,z1,z2⟩:=hSw);go_simp;(try first | omega | (rw[decide_eq_true_iff];omega)));refine wpT4 10 11 12 13 ?_;refine wpT4 14 15 16 17 ?_;refine wpT4 18 19 20 21 ?_;refine wpR 22 fun Kq hKq=> ?_;go_simp;refine(sclost_any f.S (f.S+1) b.sc b.mss _ HBO.sc HS.cn.sc).mono ?_;rintro e w10⟨v,rfl,ho,hb⟩;obtain⟨la,lc,rfl,-⟩:=ho.val;replace HS:=hid (HS.bel hb);clear hb ho;go_simp;refine hKq.out _ _ (⟨HS.cn.cell 10 (.int .i64 b.mark) rfl,HS.cn.cell 0 (.pointer (some ⟨f.S,0,none⟩)) rfl,HS.cn.cell 7 (.int .i64 b.mss) rfl⟩) ?_;clear hKq Kq hZ;refine fun hZ=>wpA ?_;refine wpT 23 ?_;refine wpT 24 (v:=.bool false) ?_ (hy:=by intro w hSw;(obtain⟨z0,z1,z2⟩:=hSw);go_simp;(try first | omega | (rw[decide_eq_false_iff_not];omega)));refine wpT 25 ?_;refine wpD ?_ _;clear hZ;go_wp2_with fail
      go_meet
      case rel=>exact⟨congrArg Value.bool (decide_eq_false (fun h=>h.2.2 h6)).symm,HS.o⟩
     have hl0:0<(b.sc.lost b.mss).length:=List.length_pos_iff.2 h6;refine wpB (fun W:World=>W.cell? ⟨f.C,10,none⟩=some (.int .i64 b.mark)/\W.cell? ⟨f.C,0,none⟩=some (.pointer (some ⟨f.S,0,none⟩))/\W.cell? ⟨f.C,7,none⟩=some (.int .i64 b.mss)) (⟨HS.cn.cell 10 (.int .i64 b.mark) rfl,HS.cn.cell 0 (.pointer (some ⟨f.S,0,none⟩)) rfl,HS.cn.cell 7 (.int .i64 b.mss) rfl⟩) fun hZ=>?_;replace HS:=hid HS.drew;generalize w9.drew=w9d at HS hZ|-;refine wpT 0 ?_;refine wpT 1 (v:=.bool true) ?_ (hy:=by intro w hSw;(obtain⟨z0,z1,z2⟩:=hSw);go_simp;(try first | omega | (rw[decide_eq_true_iff];omega)));refine wpT4 2 3 4 5 ?_;refine wpT2 6 7 ?_;refine wpT 8 ?_;refine wpT 9 (v:=.bool true) ?_ (hy:=by intro w hSw;(obtain⟨z0,z1,z2⟩:=hSw);go_simp;(try first | omega | (rw[decide_eq_true_iff];omega)));refine wpT4 10 11 12 13 ?_;refine wpT4 14 15 16 17 ?_;refine wpT4 18 19 20 21 ?_;refine wpR 22 fun Kq hKq=> ?_;go_simp;refine(sclost_any f.S (f.S+1) b.sc b.mss _ HBO.sc HS.cn.sc).mono ?_;rintro e w10⟨v,rfl,ho,hb⟩;obtain⟨la,lc,rfl,-⟩:=ho.val;replace HS:=hid (HS.bel hb);clear hb ho;go_simp;refine hKq.out _ _ (⟨HS.cn.cell 10 (.int .i64 b.mark) rfl,HS.cn.cell 0 (.pointer (some ⟨f.S,0,none⟩)) rfl,HS.cn.cell 7 (.int .i64 b.mss) rfl⟩) ?_;clear hKq Kq hZ;refine fun hZ=>wpA ?_;refine wpT 23 ?_;refine wpT 24 (v:=.bool true) ?_ (hy:=by intro w hSw;(obtain⟨z0,z1,z2⟩:=hSw);go_simp;(try first | omega | (rw[decide_eq_true_iff];omega)));refine wpT 25 ?_;refine wpD ?_ _;clear hZ;go_wp2_with fail
     go_meet
     case rel=>exact⟨congrArg Value.bool (decide_eq_true ⟨h4,h5,h6⟩).symm,HS.o⟩
    refine wpB (fun W:World=>W.cell? ⟨f.C,10,none⟩=some (.int .i64 b.mark)/\W.cell? ⟨f.C,0,none⟩=some (.pointer (some ⟨f.S,0,none⟩))/\W.cell? ⟨f.C,7,none⟩=some (.int .i64 b.mss)) (⟨HS.cn.cell 10 (.int .i64 b.mark) rfl,HS.cn.cell 0 (.pointer (some ⟨f.S,0,none⟩)) rfl,HS.cn.cell 7 (.int .i64 b.mss) rfl⟩) fun hZ=>?_;replace HS:=hid HS.drew;generalize w9.drew=w9d at HS hZ|-;refine wpT 0 ?_;refine wpT 1 (v:=.bool true) ?_ (hy:=by intro w hSw;(obtain⟨z0,z1,z2⟩:=hSw);go_simp;(try first | omega | (rw[decide_eq_true_iff];omega)));refine wpT4 2 3 4 5 ?_;refine wpT2 6 7 ?_;refine wpT 8 ?_;refine wpT 9 (v:=.bool false) ?_ (hy:=by intro w hSw;(obtain⟨z0,z1,z2⟩:=hSw);go_simp;(try first | omega | (rw[decide_eq_false_iff_not];omega)));refine wpT2 10 11 ?_;refine wpK 12 ?_;refine wpK 13 ?_;refine wpK 14 ?_;refine wpK 15 ?_;refine wpK 16 ?_;refine wpK 17 ?_;refine wpK 18 ?_;refine wpK 19 ?_;refine wpK 20 ?_;refine wpK 21 ?_;refine wpK 22 ?_;refine wpK 23 ?_;refine wpK 24 ?_;refine wpT 25 ?_;refine wpD ?_ _;clear hZ;go_wp2_with fail
    go_meet
    case rel=>exact⟨congrArg Value.bool (decide_eq_false (fun h=>by have:=h.2.1;omega)).symm,HS.o⟩
   refine wpB (fun W:World=>W.cell? ⟨f.C,10,none⟩=some (.int .i64 b.mark)/\W.cell? ⟨f.C,0,none⟩=some (.pointer (some ⟨f.S,0,none⟩))/\W.cell? ⟨f.C,7,none⟩=some (.int .i64 b.mss)) (⟨HS.cn.cell 10 (.int .i64 b.mark) rfl,HS.cn.cell 0 (.pointer (some ⟨f.S,0,none⟩)) rfl,HS.cn.cell 7 (.int .i64 b.mss) rfl⟩) fun hZ=>?_;replace HS:=hid HS.drew;generalize w9.drew=w9d at HS hZ|-;refine wpT 0 ?_;refine wpT 1 (v:=.bool false) ?_ (hy:=by intro w hSw;(obtain⟨z0,z1,z2⟩:=hSw);go_simp;(try first | omega | (rw[decide_eq_false_iff_not];omega)));refine wpT 2 ?_;refine wpK 3 ?_;refine wpK 4 ?_;refine wpK 5 ?_;refine wpK 6 ?_;refine wpK 7 ?_;refine wpK 8 ?_;refine wpK 9 ?_;refine wpT2 10 11 ?_;refine wpK 12 ?_;refine wpK 13 ?_;refine wpK 14 ?_;refine wpK 15 ?_;refine wpK 16 ?_;refine wpK 17 ?_;refine wpK 18 ?_;refine wpK 19 ?_;refine wpK 20 ?_;refine wpK 21 ?_;refine wpK 22 ?_;refine wpK 23 ?_;refine wpK 24 ?_;refine wpT 25 ?_;refine wpD ?_ _;clear hZ;go_wp2_with fail
   go_meet
   case rel=>exact⟨congrArg Value.bool (decide_eq_false (fun h=>by have:=h.1;omega)).symm,HS.o⟩
  case rest =>
   obtain⟨rfl,hs9⟩:=hcut;replace HS:=hid hs9;clear hs9
   go_upto_if 109 with fail
   go_cut []from 109 to 121 (fun wx=>Sw f w w.heap.size (s,a,cap) (b.ackL ack sk c.flight) wx)
   case first =>
    by_cases h7:0<sk/\b.mark<=ack/\b.sc.lost b.mss≠[]
    ·rw[decide_eq_true h7];have HA:=hid (show b.ackL ack sk c.flight={ b with cg:=b.cg.lost c.flight b.next }from if_pos h7);clear h7;go_wp2_with fail;refine wpB (fun W:World=>W.cell? ⟨f.C,2,none⟩=some (.pointer (some ⟨f.G,0,none⟩))) (HS.cn.cell 2 (.pointer (some ⟨f.G,0,none⟩)) rfl) fun hZ=>?_;replace HS:=hid HS.drew;generalize wc.drew=wcd at HS hZ|-;refine wpT4 0 1 2 3 ?_;refine wpT4 4 5 6 7 ?_;refine wpT 8 ?_;refine wpR 9 fun Kq hKq=> ?_;go_simp;refine(tnext_any f b _ HS.cn).mono ?_;rintro e w11⟨rfl,hb⟩;replace HS:=hid (HS.bel hb);clear hb;go_simp;refine hKq.out _ _ (HS.cn.cell 2 (.pointer (some ⟨f.G,0,none⟩)) rfl) ?_;clear hKq Kq hZ;refine fun hZ=>wpA ?_;refine wpR 10 fun Kq hKq=> ?_;go_simp;refine(lost_any f.G b.cg c.flight b.next (by unfold In64;omega) HBO.cg _ HS.cn.cg).mono ?_;rintro e w12⟨rfl,hg,hc⟩;have HR:=hid (HS.call (HS.cn.onG hg hc) (.ofG hc));clear hg hc;go_simp;refine hKq.out _ _ (HR.cn.cell 2 (.pointer (some ⟨f.G,0,none⟩)) rfl) ?_;clear hKq Kq hZ;refine fun hZ=>wpA ?_;refine wpD ?_ _;clear hZ;go_wp2_with fail
     go_meet
     case rel=>exact HR.eq HA.o
    rw[decide_eq_false h7];have HA:=hid (show b.ackL ack sk c.flight=b from if_neg h7);clear h7;go_wp2_with fail
    go_meet
    case rel=>exact HS.eq HA.o
   case rest =>
    replace HS:=hid hcut;have HDO:=hid (HBO.ackL ack sk c.flight);generalize b.ackL ack sk c.flight=d3 at HS HDO HDD;clear hcut HBO hmk1 hmk2;rw[HDD.o]at HE;clear HDD;by_cases h8:c.una<=c.last
    ·have hdh8:decide (c.una<=c.last)=true:=decide_eq_true h8;have H8:=hid h8;clear h8;by_cases h9:c.last<ack
     ·have hdh9:decide (c.last<ack)=true:=decide_eq_true h9;have H9:=hid h9;clear h9;go_wp2_with fail;refine(tstep_any f d3 now 7 _ HS.cn HDO.st (by decide)).mono ?_;rintro e w13⟨rfl,hc,hch⟩;replace HS:=hid (HS.call hc hch);clear hc hch;go_wp2_with fail
      go_end0
      exact⟨rfl,by rw[HE.o,if_pos ⟨H8.o,H9.o⟩];exact HS.cn,HS.ch⟩
     have hdh9:decide (c.last<ack)=false:=decide_eq_false h9;have H9:=hid h9;clear h9;go_wp2_with fail
     go_end0
     exact⟨rfl,by rw[HE.o,if_neg (fun h=>by have:=H9.o;have:=h.2;omega)];exact HS.cn,HS.ch⟩
    have hdh8:decide (c.una<=c.last)=false:=decide_eq_false h8;have H8:=hid h8;clear h8;go_wp2_with fail
    go_end0
    exact⟨rfl,by rw[HE.o,if_neg (fun h=>by have:=H8.o;have:=h.1;omega)];exact HS.cn,HS.ch⟩
end
end Go.Proofs.YtclkcmidhhfdmaaGreatDoor
