import Derived.Test.YtclkcmidhhfdmaaGreatDoorKb34
namespace Go.Proofs.YtclkcmidhhfdmaaGreatDoor
open Lib (hid)
section
set_option maxHeartbeats 8000000
set_option maxRecDepth 100000
open Go.RowKit Go.Shelf
structure Sw (f:Fp) (w0:World) (B:Nat) (x:SgM) (c:Cn) (W:World):Prop where
 cn:CnAt f c W
 ch:ChgF f w0 W
 row:SgRow B x W
 bl:BlIn W x.2.1 x.1.bl
 top:gTop<=B
namespace Sw
variable {f : Fp} {c d : Cn} {w0 W W' : World} {B : Nat} {x : SgM}
theorem start (h:CnAt f c W) (hb:BlIn W x.2.1 x.1.bl):Sw f W W.heap.size x c (W.alloc (.cells (sgL x).toArray 43)):=by
 have hb0:=(Below.refl W.heap.size W).alloc (Nat.le_refl _) (.cells (sgL x).toArray 43);exact ⟨h.below hb0,.ofB hb0,SgRow.new _ _,hb.keep hb0.size (.below hb0),h.gl.top⟩
theorem bel (h:Sw f w0 B x c W) (hb:Below W.heap.size W W'):Sw f w0 B x c W':=⟨h.cn.below hb,h.ch.trans (.ofB hb),h.row.below hb,h.bl.keep hb.size (.below hb),h.top⟩
theorem call (h:Sw f w0 B x c W) (hc:CnAt f d W') (hch:ChgF f W W'):Sw f w0 B x d W':=⟨hc,h.ch.trans hch,h.row.chgF h.cn hch,h.bl.chgF h.cn hch,h.top⟩
theorem drew (h:Sw f w0 B x c W):Sw f w0 B x c W.drew:=h.bel (Below.refl _ _).drew
theorem eq (h:Sw f w0 B x c W) (e:d=c):Sw f w0 B x d W:=e ▸ h
end Sw
theorem tstore_any (f:Fp) (c:Cn) (now:Int) (s:Sg) (off:Int) (a:Option Addr) (cap:Nat) (w:World) (h:CnAt f c w) (ok:c.Ok) (hs:s.Ok) (hb:BlIn w a s.bl) (ho: -2147483648<=off/\off<=2147483647) :
  Calls Tryz.prog 116 #[.pointer (some ⟨f.C,0,none⟩),.int .i64 now,sgV s a cap,.int .i64 off] w fun e w'=>e= .returned (.tuple #[])/\CnAt f (c.store now s off) w'/\ChgF f w w':=by
 have HO:=hid ok;have HSL:=hid hs.slen;have hlt:=h.lt;have hty:=h.tyC;have HS:=hid (Sw.start (x:=(s,a,cap)) h hb);obtain ⟨g1,g2,g3,g4,g5,g6,g7,g8,g9,g10,g11,g12,g13⟩:=s;clear h hb ok hs;unfold sgV;dsimp only
 cases g13 with
 | nil =>
  have HE:=hid (show c.store now ⟨g1,g2,g3,g4,g5,g6,g7,g8,g9,g10,g11,g12,[]⟩ off=c from if_pos rfl);rw [HE.out]
  go_enter Tryz.func116,Tryz.ntmps116
  go_wp2_with fail
  go_end0
  exact ⟨rfl,HS.out.cn,HS.out.ch⟩
 | cons x t =>
  have HE:=hid (show c.store now ⟨g1,g2,g3,g4,g5,g6,g7,g8,g9,g10,g11,g12,x::t⟩ off=if canR c.st=true then (if c.insB off (x::t)=true then (c.insert off (x::t)).ackSoon now else (c.insert off (x::t)).ackNow) else c.ackNow from if_neg (List.cons_ne_nil x t));rw [HE.out];dsimp only at HSL
  cases hc:canR c.st with
  | false =>
   rw [if_neg (by simp)]
   go_enter Tryz.func116,Tryz.ntmps116
   go_wp2_with fail;change Code.wp _ _ _ _ (w.alloc (.cells (sgL (⟨g1,g2,g3,g4,g5,g6,g7,g8,g9,g10,g11,g12,x::t⟩,a,cap)).toArray 43));generalize w.alloc (.cells (sgL (⟨g1,g2,g3,g4,g5,g6,g7,g8,g9,g10,g11,g12,x::t⟩,a,cap)).toArray 43)=w1 at HS ⊢;refine wp_region_held_drew (S:=(fun W:World=>W.cell? ⟨f.C,28,none⟩=some (.int .i64 c.st)/\W.cell? ⟨w.heap.size,12,none⟩=some (.string ⟨(x::t).toArray⟩))) (by kernel_rfl) (⟨HS.out.cn.cell 28 (.int .i64 c.st) rfl,HS.out.row.cell 12 (.string ⟨(x::t).toArray⟩) rfl⟩) (fun hZ=> ?_);replace HS:=hid HS.out.drew;generalize w1.drew=w2 at HS hZ ⊢;refine wpT 0 ?_;refine wpT 1 ?_;refine wpT 2 ?_;refine wpT 3 ?_;refine wpR 4 fun Kq hKq=> ?_;go_simp;refine (canReceive_any c.st _).mono ?_;rintro e w3 ⟨rfl,rfl⟩;rw [hc];go_simp;refine hKq.out _ _ (⟨HS.out.cn.cell 28 (.int .i64 c.st) rfl,HS.out.row.cell 12 (.string ⟨(x::t).toArray⟩) rfl⟩) fun hI=>wpA ?_;clear hKq Kq hZ;have hZ:=hI;clear hI;refine wpT 5 ?_;refine wpK 6 ?_;refine wpK 7 ?_;refine wpK 8 ?_;refine wpK 9 ?_;refine wpK 10 ?_;refine wpK 11 ?_;refine wpK 12 ?_;refine wpT 13 ?_;refine wpT 14 ?_;refine wpAnyH_done (by kernel_rfl) ?_ _;clear hZ;go_wp2_with fail;refine (tack_any f c _ HS.out.cn).mono ?_;rintro e w5 ⟨rfl,hc5,hch⟩;replace HS:=hid (HS.out.call hc5 hch);clear hc5 hch;go_wp2_with fail
   go_end0
   exact ⟨rfl,HS.out.cn,HS.out.ch⟩
  | true =>
   rw [if_pos rfl]
   cases hi:c.insB off (x::t) with
   | true =>
    rw [if_pos rfl]
    go_enter Tryz.func116,Tryz.ntmps116
    go_wp2_with fail;change Code.wp _ _ _ _ (w.alloc (.cells (sgL (⟨g1,g2,g3,g4,g5,g6,g7,g8,g9,g10,g11,g12,x::t⟩,a,cap)).toArray 43));generalize w.alloc (.cells (sgL (⟨g1,g2,g3,g4,g5,g6,g7,g8,g9,g10,g11,g12,x::t⟩,a,cap)).toArray 43)=w1 at HS ⊢;refine wp_region_held_drew (S:=(fun W:World=>W.cell? ⟨f.C,28,none⟩=some (.int .i64 c.st)/\W.cell? ⟨w.heap.size,12,none⟩=some (.string ⟨(x::t).toArray⟩))) (by kernel_rfl) (⟨HS.out.cn.cell 28 (.int .i64 c.st) rfl,HS.out.row.cell 12 (.string ⟨(x::t).toArray⟩) rfl⟩) (fun hZ=> ?_);replace HS:=hid HS.out.drew;generalize w1.drew=w2 at HS hZ ⊢;refine wpT 0 ?_;refine wpT 1 ?_;refine wpT 2 ?_;refine wpT 3 ?_;refine wpR 4 fun Kq hKq=> ?_;go_simp;refine (canReceive_any c.st _).mono ?_;rintro e w3 ⟨rfl,rfl⟩;rw [hc];go_simp;refine hKq.out _ _ (⟨HS.out.cn.cell 28 (.int .i64 c.st) rfl,HS.out.row.cell 12 (.string ⟨(x::t).toArray⟩) rfl⟩) fun hI=>wpA ?_;clear hKq Kq hZ;have hZ:=hI;clear hI;refine wpT 5 ?_;refine wpT 6 ?_;refine wpT 7 ?_;refine wpT 8 ?_;refine wpT 9 ?_;refine wpT 10 ?_;refine wpT 11 ?_;refine wpR 12 fun Kq hKq=> ?_;go_simp;refine (tinsert_any f c off (x::t) _ HS.out.cn HO.out ho (by have:=HSL.out;omega)).mono ?_;rintro e w4 ⟨rfl,hc4,hch⟩;rw [hi];have HS4:=hid (HS.out.call hc4 hch);clear hc4 hch HS;go_simp;refine hKq.out _ _ (⟨HS4.out.cn.cell 28 (.int .i64 c.st) rfl,HS4.out.row.cell 12 (.string ⟨(x::t).toArray⟩) rfl⟩) fun hI=>wpA ?_;clear hKq Kq hZ;have hZ:=hI;clear hI;refine wpT 13 ?_;refine wpT 14 ?_;refine wpAnyH_done (by kernel_rfl) ?_ _;clear hZ;go_wp2_with fail;refine (tackSoon_any f (c.insert off (x::t)) now _ HS4.out.cn).mono ?_;rintro e w5 ⟨rfl,hc5,hch⟩;replace HS4:=hid (HS4.out.call hc5 hch);clear hc5 hch;go_wp2_with fail
    go_end0
    exact ⟨rfl,HS4.out.cn,HS4.out.ch⟩
   | false =>
    rw [if_neg (by simp)]
    go_enter Tryz.func116,Tryz.ntmps116
    go_wp2_with fail;change Code.wp _ _ _ _ (w.alloc (.cells (sgL (⟨g1,g2,g3,g4,g5,g6,g7,g8,g9,g10,g11,g12,x::t⟩,a,cap)).toArray 43));generalize w.alloc (.cells (sgL (⟨g1,g2,g3,g4,g5,g6,g7,g8,g9,g10,g11,g12,x::t⟩,a,cap)).toArray 43)=w1 at HS ⊢;refine wp_region_held_drew (S:=(fun W:World=>W.cell? ⟨f.C,28,none⟩=some (.int .i64 c.st)/\W.cell? ⟨w.heap.size,12,none⟩=some (.string ⟨(x::t).toArray⟩))) (by kernel_rfl) (⟨HS.out.cn.cell 28 (.int .i64 c.st) rfl,HS.out.row.cell 12 (.string ⟨(x::t).toArray⟩) rfl⟩) (fun hZ=> ?_);replace HS:=hid HS.out.drew;generalize w1.drew=w2 at HS hZ ⊢;refine wpT 0 ?_;refine wpT 1 ?_;refine wpT 2 ?_;refine wpT 3 ?_;refine wpR 4 fun Kq hKq=> ?_;go_simp;refine (canReceive_any c.st _).mono ?_;rintro e w3 ⟨rfl,rfl⟩;rw [hc];go_simp;refine hKq.out _ _ (⟨HS.out.cn.cell 28 (.int .i64 c.st) rfl,HS.out.row.cell 12 (.string ⟨(x::t).toArray⟩) rfl⟩) fun hI=>wpA ?_;clear hKq Kq hZ;have hZ:=hI;clear hI;refine wpT 5 ?_;refine wpT 6 ?_;refine wpT 7 ?_;refine wpT 8 ?_;refine wpT 9 ?_;refine wpT 10 ?_;refine wpT 11 ?_;refine wpR 12 fun Kq hKq=> ?_;go_simp;refine (tinsert_any f c off (x::t) _ HS.out.cn HO.out ho (by have:=HSL.out;omega)).mono ?_;rintro e w4 ⟨rfl,hc4,hch⟩;rw [hi];have HS4:=hid (HS.out.call hc4 hch);clear hc4 hch HS;go_simp;refine hKq.out _ _ (⟨HS4.out.cn.cell 28 (.int .i64 c.st) rfl,HS4.out.row.cell 12 (.string ⟨(x::t).toArray⟩) rfl⟩) fun hI=>wpA ?_;clear hKq Kq hZ;have hZ:=hI;clear hI;refine wpT 13 ?_;refine wpT 14 ?_;refine wpAnyH_done (by kernel_rfl) ?_ _;clear hZ;go_wp2_with fail;refine (tack_any f (c.insert off (x::t)) _ HS4.out.cn).mono ?_;rintro e w5 ⟨rfl,hc5,hch⟩;replace HS4:=hid (HS4.out.call hc5 hch);clear hc5 hch;go_wp2_with fail
    go_end0
    exact ⟨rfl,HS4.out.cn,HS4.out.ch⟩
def Cn.finA (c:Cn) (s:Sg) (off:Int):Cn:=if s.fin=true/\canRecv c.st=true/\c.ended=false/\c.bx.nx<=off+s.s.length then { c with ended:=true,fend:=off+s.s.length } else c
theorem Cn.finS_eq (c:Cn) (now:Int) (s:Sg) (off:Int):c.finS now s off=if (c.finA s off).reached=true/\(c.finA s off).over=false then ({ c.finA s off with over:=true }.step now 6).ackNow else c.finA s off:=rfl
theorem Cn.finA_tries (c:Cn) (s:Sg) (off:Int):(c.finA s off).tries=c.tries:=by unfold Cn.finA;split <;> rfl
theorem Cn.Ok.finA {c:Cn} (h:c.Ok) {s:Sg} {off:Int} (hs:(s.s.length:Int)<=1024-8*s.bl.length) (ho: -2147483648<=off/\off<=2147483647):(c.finA s off).Ok:=by
 unfold Cn.finA;split
 ·exact { h with fend:=by show _<=off+(s.s.length:Int)/\off+(s.s.length:Int)<=_;omega }
 exact h
theorem tfinS_any (f:Fp) (c:Cn) (now:Int) (s:Sg) (off:Int) (a:Option Addr) (cap:Nat) (w:World) (h:CnAt f c w) (ok:c.Ok) (hn:In64 now) (hs:s.Ok) (hb:BlIn w a s.bl) (ho: -2147483648<=off/\off<=2147483647) (ht:c.tries<=12) :
  Calls Tryz.prog 117 #[.pointer (some ⟨f.C,0,none⟩),.int .i64 now,sgV s a cap,.int .i64 off] w fun e w'=>e= .returned (.tuple #[])/\CnAt f (c.finS now s off) w'/\ChgF f w w':=by
 have HO:=hid ok;have HSL:=hid hs.slen;have hst:=ok.st;have hz:(⟨s.s.toArray⟩:ByteArray).size=s.s.length:=by simp [ByteArray.size]
 have hlt:=h.lt;have HN:=hid hn;have hsl:=hs.slen;have HT:=hid ht;have HS:=hid (Sw.start (x:=(s,a,cap)) h hb);clear h hb ok hs hn ht;unfold sgV;have HFQ:=hid (Cn.finS_eq c now s off);obtain ⟨d,hd⟩:∃ d,d=c.finA s off:=⟨_,rfl⟩;rw [←hd] at HFQ;have HD:=hid hd;have HDO:=hid (show d.Ok/\d.tries<=12 from hd ▸ ⟨HO.out.finA HSL.out ho,Cn.finA_tries c s off ▸ HT.out⟩);clear hd
 go_enter Tryz.func117,Tryz.ntmps117
 go_upto_region 2 with fail
 change Code.wp _ _ _ _ (w.alloc (.cells (sgL (s,a,cap)).toArray 43));generalize w.alloc (.cells (sgL (s,a,cap)).toArray 43)=w1 at HS ⊢
 go_cut [40] from 14 to 41 (fun v40 wx=>v40= .bool (decide (s.fin=true/\canRecv c.st=true/\c.ended=false/\c.bx.nx<=off+s.s.length))/\wx=w1)
 case first =>
  have c5:=HS.out.row.cell 5 (.bool s.fin) rfl;by_cases hfin:s.fin=true
  ·rw [hfin] at c5;have HF:=hid hfin;clear hfin;have c28:=HS.out.cn.cell 28 (.int .i64 c.st) rfl;by_cases hc:canRecv c.st=true
   ·have hc2:canR c.st=true:=hc;have HCR:=hid hc;clear hc;have c15:=HS.out.cn.cell 15 (.bool c.ended) rfl;by_cases he:c.ended=false
    ·rw [he] at c15;have HEN:=hid (show c.ended=false from he);clear he;have c11:=HS.out.cn.cell 11 (.pointer (some ⟨f.X,0,none⟩)) rfl;have hnx:=HO.out.nxN;have hnx0:=Int.le_trans HO.out.bx.rd0 HO.out.bx.rdnx;by_cases hle:c.bx.nx<=off+s.s.length
     ·have hd:decide (c.bx.nx<=off+s.s.length)=true:=decide_eq_true hle;clear hle;go_wp2_with fail;refine (canReceive_any c.st _).mono ?_;rintro e w3 ⟨rfl,rfl⟩;rw [hc2];go_wp2_with fail;refine (next_any f.X f.R 0 c.bx _ HS.out.cn.bx).mono ?_;rintro e w4 ⟨rfl,rfl⟩;have HLE:=hid (decide_eq_true_iff.1 hd);go_wp2_with fail
      go_meet
      case rel=>exact ⟨congrArg Value.bool (decide_eq_true ⟨HF.out,HCR.out,HEN.out,HLE.out⟩).symm,rfl⟩
     have hd:decide (c.bx.nx<=off+s.s.length)=false:=decide_eq_false hle;clear hle;go_wp2_with fail;refine (canReceive_any c.st _).mono ?_;rintro e w3 ⟨rfl,rfl⟩;rw [hc2];go_wp2_with fail;refine (next_any f.X f.R 0 c.bx _ HS.out.cn.bx).mono ?_;rintro e w4 ⟨rfl,rfl⟩;have HLE:=hid (decide_eq_false_iff_not.1 hd);go_wp2_with fail
     go_meet
     case rel=>exact ⟨congrArg Value.bool (decide_eq_false (fun h=>absurd h.2.2.2 (Int.not_le.2 HLE.out))).symm,rfl⟩
    have he2:c.ended=true:=by simpa using he
    rw [he2] at c15;have HEN:=hid he;clear he he2;go_wp2_with fail;refine (canReceive_any c.st _).mono ?_;rintro e w3 ⟨rfl,rfl⟩;rw [hc2];go_wp2_with fail
    go_meet
    case rel=>exact ⟨congrArg Value.bool (decide_eq_false (fun h=>HEN.out h.2.2.1)).symm,rfl⟩
   have hc2:canR c.st=false:=by simpa [canRecv,canR] using hc
   have HCR:=hid hc;clear hc;go_wp2_with fail;refine (canReceive_any c.st _).mono ?_;rintro e w3 ⟨rfl,rfl⟩;rw [hc2];go_wp2_with fail
   go_meet
   case rel=>exact ⟨congrArg Value.bool (decide_eq_false (fun h=>HCR.out h.2.1)).symm,rfl⟩
  have hfin2:s.fin=false:=by simpa using hfin
  rw [hfin2] at c5;have HF:=hid hfin;clear hfin hfin2;go_wp2_with fail
  go_meet
  case rel=>exact ⟨congrArg Value.bool (decide_eq_false (fun h=>HF.out h.1)).symm,rfl⟩
 case rest =>
  obtain ⟨rfl,rfl⟩:=hcut
  go_upto_if 40 with fail
  go_cut [] from 40 to 50 (fun wx=>Sw f w w.heap.size (s,a,cap) d wx)
  case first =>
   by_cases hp:s.fin=true/\canRecv c.st=true/\c.ended=false/\c.bx.nx<=off+s.s.length
   ·rw [decide_eq_true hp];have HE:=hid (show d={ c with ended:=true,fend:=off+s.s.length } by rw [HD.out];exact if_pos hp);have f15:=HS.out.cn.free 15;have f16:=HS.out.cn.free 16;have c15:=HS.out.cn.cell 15 (.bool c.ended) rfl;have c16:=HS.out.cn.cell 16 (.int .i64 c.fend) rfl;clear hp;go_wp2_with fail
    go_meet
    case rel=>exact (HS.out.call ((HS.out.cn.set 15 _ { c with ended:=true } rfl rfl rfl rfl rfl).set 16 _ { c with ended:=true,fend:=off+s.s.length } rfl rfl rfl rfl rfl) (.ofC (((Chg.refl _ _).setCell 15 _).setCell 16 _))).eq HE.out
   rw [decide_eq_false hp];have HE:=hid (show d=c by rw [HD.out];exact if_neg hp);clear hp;go_wp2_with fail
   go_meet
   case rel=>exact HS.out.eq HE.out
  case rest =>
   replace HS:=hid hcut;clear hcut HD
   cases hr:d.reached with
   | false =>
    go_wp2_with fail;refine (treached_any f d _ HS.out.cn).mono ?_;rintro e w3 ⟨rfl,hb⟩;replace HS:=hid (HS.out.bel hb);rw [hr];clear hb;go_wp2_with fail
    go_end0
    exact ⟨rfl,by rw [HFQ.out,if_neg (by rw [hr];rintro ⟨h,-⟩;cases h)];exact HS.out.cn,HS.out.ch⟩
   | true =>
    cases hv:d.over with
    | true =>
     go_wp2_with fail;refine (treached_any f d _ HS.out.cn).mono ?_;rintro e w3 ⟨rfl,hb⟩;replace HS:=hid (HS.out.bel hb);rw [hr];clear hb;have c17:=HS.out.cn.cell 17 (.bool d.over) rfl;rw [hv] at c17;go_wp2_with fail
     go_end0
     exact ⟨rfl,by rw [HFQ.out,if_neg (by rw [hv];rintro ⟨-,h⟩;cases h)];exact HS.out.cn,HS.out.ch⟩
    | false =>
     go_wp2_with fail;refine (treached_any f d _ HS.out.cn).mono ?_;rintro e w3 ⟨rfl,hb⟩;replace HS:=hid (HS.out.bel hb);rw [hr];clear hb;have c17:=HS.out.cn.cell 17 (.bool d.over) rfl;have f17:=HS.out.cn.free 17;rw [hv] at c17;have HS3:=hid (HS.out.call (HS.out.cn.set 17 (.bool true) { d with over:=true } rfl rfl rfl rfl rfl) (.ofC ((Chg.refl _ _).setCell 17 _)));have HST:=hid HDO.out.1.st;clear HS;go_wp2_with fail;refine (tstep_any f { d with over:=true } now 6 _ HS3.out.cn HST.out (by decide)).mono ?_;rintro e w5 ⟨rfl,hc5,hch⟩;replace HS:=hid (HS3.out.call hc5 hch);clear hc5 hch c17 f17 HS3;go_wp2_with fail;refine (tack_any f _ _ HS.out.cn).mono ?_;rintro e w6 ⟨rfl,hc6,hch⟩;replace HS:=hid (HS.out.call hc6 hch);clear hc6 hch;go_wp2_with fail
     go_end0
     exact ⟨rfl,by rw [HFQ.out,if_pos ⟨hr,hv⟩];exact HS.out.cn,HS.out.ch⟩
end
section
set_option maxHeartbeats 8000000
set_option maxRecDepth 100000
open Go.RowKit Go.Shelf
theorem canonF_len3 {e n:Int} {L:List Sp} (h:canonF e L=true) (hm:∀ i,Mem i L->i<n):2*(L.length:Int)<=max 0 (n-e):=by
 induction L generalizing e with
 | nil=>simp;omega
 | cons x l ih =>
  obtain ⟨⟨h0,h1,h2,-⟩,h3⟩:=canonF_cons.1 h;have h4:=ih h3 (fun i hi=>hm i (mem_cons.2 (.inr hi)));have h5:=hm (x.2-1) (mem_cons.2 (.inl ⟨by omega,by omega⟩));rw [List.length_cons];omega
theorem Cn.Ok.sklen {c:Cn} (h:c.Ok):(c.sc.sk.length:Int)<=549755813889:=by
 have:=canonF_len3 (n:=c.next) h.sc.csk (fun i hi=>(h.sc.msk i hi).2);have:=h.una;omega
def spI (iss:Int) (b:Sp):Sp:=(diffV b.1 iss,diffV b.2 iss)
def repP (sacks:Bool) (next:Int) (x:Sp):Bool:=sacks&&decide (1<=x.1/\x.1<x.2/\x.2<=next)
theorem repS_step (sacks:Bool) (next iss:Int) (bl:List Sp) (k:Nat) (hk:k<bl.length) :
  repS sacks next iss (bl.take (k+1))=if repP sacks next (spI iss bl[k])=true then repS sacks next iss (bl.take k)++[spI iss bl[k]] else repS sacks next iss (bl.take k):=by
 unfold repS;rw [List.take_succ_eq_append_getElem hk,List.map_append,List.filter_append];show _++List.filter _ [spI iss bl[k]]=_;rw [List.filter_cons];show _++(if repP sacks next (spI iss bl[k])=true then _ else _)=_;split
 ·rfl
 rw [List.filter_nil,List.append_nil]
theorem repS_len (sacks:Bool) (next iss:Int) (bl:List Sp):(repS sacks next iss bl).length<=bl.length:=by
 unfold repS;refine Nat.le_trans (List.length_filter_le _ _) ?_;rw [List.length_map];exact Nat.le_refl _
theorem advF_take (ack:Int) (L:List Sp) (k:Nat) (hk:k<L.length):advF ack (L.take (k+1))=advF ack (L.take k)+max 0 (min L[k].2 ack-L[k].1):=by
 rw [List.take_succ_eq_append_getElem hk];generalize L.take k=T
 induction T with
 | nil=>simp [advF]
 | cons y T ih=>simp only [List.cons_append,advF,ih];omega
theorem advF_bd {ack e:Int} {L:List Sp} (h:canonF e L=true):∀ k,0<=advF ack (L.take k)/\advF ack (L.take k)<=max 0 (1099511627776-e):=by
 induction L generalizing e with
 | nil=>intro k;simp [advF];omega
 | cons x l ih =>
  obtain ⟨⟨h0,h1,h2,h3⟩,h4⟩:=canonF_cons.1 h;intro k
  cases k with
  | zero=>simp [advF];omega
  | succ k =>
   have:=ih h4 k;rw [List.take_succ_cons];simp only [advF];omega
theorem own_spAt {w:World} {base n cap:Nat} {a:Option Addr} {L:List Sp} (h:OwnSp w base (.slice a n cap) L) (hs:L.length<=1099511627776):SpAt w w.heap.size a L:=by
 obtain ⟨a',cap',hv,hc,-⟩:=h.at hs
 cases hv
 exact hc
theorem canonF_spb {e:Int} {L:List Sp} (h:canonF e L=true) {x:Sp} (hx:x∈L):0<=x.1/\x.1<x.2/\x.2<=1099511627776:=by
 induction L generalizing e with
 | nil=>cases hx
 | cons y l ih =>
  obtain ⟨⟨h0,_,h2,h3⟩,h4⟩:=canonF_cons.1 h
  rcases List.mem_cons.1 hx with rfl | hx
  ·exact ⟨h0,h2,h3⟩
  exact ih h4 hx
theorem ackN_bd {s:Sc} (h:s.Ok) {ack:Int} {R:List Sp} (ha: -2147483648<=ack/\ack<=2147483647): -3298534883328<=s.ackN ack R/\s.ackN ack R<=3298534883328:=by
 unfold Sc.ackN;split
 ·rename_i hb;have h1:=countF_nonneg h.csk;have h2:=(h.acked ack R).csk;unfold Sc.acked at h2;rw [if_pos hb] at h2;have h3:=countF_nonneg h2;have:=h.u0;have:=h.un;have:=h.n40;omega
 omega
theorem treport_any (f:Fp) (c:Cn) (ack:Int) (bl:List Sp) (a:Option Addr) (cap:Nat) (w:World) (h:CnAt f c w) (ok:c.Ok) (hb:BlIn w a bl) (hl:bl.length<=3) (ha: -2147483648<=ack/\ack<=2147483647) :
  Calls Tryz.prog 158 #[.pointer (some ⟨f.C,0,none⟩),.int .i64 c.cf.iss,.int .i64 ack,.slice a bl.length cap] w fun e w'=>e= .returned (.int .i64 (c.repN ack bl))/\CnAt f (c.report ack bl) w'/\ChgF f w w':=by
 have HO:=hid ok;have hgt:=h.gl.top;have HC:=hid h;have HX:=hid (ChgF.refl f w);have HB:=hid hb;clear h hb ok
 go_enter Tryz.func158,Tryz.ntmps158
 go_wp2_with fail
 go_loopg [9,20] bl.length (fun g v9 kv wr=>∃ k:Nat,kv= .int .i64 (k:Int)/\g+k=bl.length/\Below w.heap.size w wr/\OwnSp wr w.heap.size v9 (repS c.sacks c.next c.cf.iss (bl.take k)))
 case atStart=>exact ⟨0,rfl,rfl,Below.refl _ _,OwnSp.nil _ _⟩
 case round =>
  obtain ⟨k,rfl,hg,hb,ho⟩:=hrel;have HBW:=hid hb;have HOW:=hid ho;clear hb ho;by_cases hk:k<bl.length
  ·obtain ⟨b,boff,rfl,hbl,hcs⟩:=(HB.out.keep HBW.out.size (.below HBW.out)).1.cells (by omega);obtain ⟨d0,d1⟩:=hcs k hk;clear hcs;have hki:(k:Int)<(bl.length:Int):=by omega
   have HTK:=hid (repS_step c.sacks c.next c.cf.iss bl k hk);have HLN:=hid (show (repS c.sacks c.next c.cf.iss (bl.take k)).length<=3 from Nat.le_trans (repS_len _ _ _ _) (by rw [List.length_take];omega));generalize bl[k]=x at d0 d1 HTK;generalize repS c.sacks c.next c.cf.iss (bl.take k)=TL at HOW HTK HLN;obtain ⟨x1,x2⟩:=x;dsimp only at d0 d1;go_wp2_with fail
   go_upto_region 5 with fail
   have hb1:=(((Below.refl wr.heap.size wr).alloc (Nat.le_refl _) (.cells #[.int .i64 x1,.int .i64 x2] 92)).alloc (by simp) (.cells #[.int .i64 (diffV x1 c.cf.iss),.int .i64 (diffV x2 c.cf.iss)] 92)).drew;have HB1:=hid (HBW.out.trans (hb1.mono HBW.out.size));have HOW1:=hid (HOW.out.bel hb1);clear hb1;have e0:=(At.new (B:=wr.heap.size+1) (W:=wr.alloc (.cells #[.int .i64 x1,.int .i64 x2] 92)) (i:=0) (v:=.int .i64 (diffV x1 c.cf.iss)) (vs:= #[.int .i64 (diffV x1 c.cf.iss),.int .i64 (diffV x2 c.cf.iss)]) 92 (by simp) rfl).1;have e1:=(At.new (B:=wr.heap.size+1) (W:=wr.alloc (.cells #[.int .i64 x1,.int .i64 x2] 92)) (i:=1) (v:=.int .i64 (diffV x2 c.cf.iss)) (vs:= #[.int .i64 (diffV x1 c.cf.iss),.int .i64 (diffV x2 c.cf.iss)]) 92 (by simp) rfl).1;have HE1:=hid e1;have HE0:=hid e0;clear e0 e1;have hsl:wr.heap.size+1<(((wr.alloc (.cells #[.int .i64 x1,.int .i64 x2] 92)).alloc (.cells #[.int .i64 (diffV x1 c.cf.iss),.int .i64 (diffV x2 c.cf.iss)] 92)).drew).heap.size:=by simp
   have HSL:=hid hsl;clear hsl
   go_cut [12] from 24 to 33 (fun v12 wx=>v12= .pointer (some ⟨wr.heap.size+1,0,none⟩)/\wx=((wr.alloc (.cells #[.int .i64 x1,.int .i64 x2] 92)).alloc (.cells #[.int .i64 (diffV x1 c.cf.iss),.int .i64 (diffV x2 c.cf.iss)] 92)).drew)
   case first =>
    go_region_with (first | (go_at_call 106;refine (diff_any _ _ _).mono ?_;rintro e w5 ⟨rfl,rfl⟩))
    all_goals
     go_wp2_with fail
     go_meet
     exact ⟨rfl,rfl⟩
   case rest =>
    obtain ⟨rfl,rfl⟩:=hcut;replace HE0:=hid (show (((wr.alloc (.cells #[.int .i64 x1,.int .i64 x2] 92)).alloc (.cells #[.int .i64 (diffV x1 c.cf.iss),.int .i64 (diffV x2 c.cf.iss)] 92)).drew).cell? ⟨wr.heap.size+1,0,none⟩=some (.int .i64 (diffV x1 c.cf.iss)) from HE0.out);replace HE1:=hid (show (((wr.alloc (.cells #[.int .i64 x1,.int .i64 x2] 92)).alloc (.cells #[.int .i64 (diffV x1 c.cf.iss),.int .i64 (diffV x2 c.cf.iss)] 92)).drew).cell? ⟨wr.heap.size+1,1,none⟩=some (.int .i64 (diffV x2 c.cf.iss)) from HE1.out);have hbase:w.heap.size<=wr.heap.size:=HBW.out.size;generalize ((wr.alloc (.cells #[.int .i64 x1,.int .i64 x2] 92)).alloc (.cells #[.int .i64 (diffV x1 c.cf.iss),.int .i64 (diffV x2 c.cf.iss)] 92)).drew=w1 at HB1 HOW1 HE0 HE1 HSL ⊢;generalize wr.heap.size=N1 at hbase HSL HE0 HE1 ⊢;clear HBW HOW d0 d1 hbl;have hy1:=diffV_bd x1 c.cf.iss;have hy2:=diffV_bd x2 c.cf.iss;replace HTK:=hid (show repS c.sacks c.next c.cf.iss (bl.take (k+1))=if repP c.sacks c.next (diffV x1 c.cf.iss,diffV x2 c.cf.iss)=true then TL++[(diffV x1 c.cf.iss,diffV x2 c.cf.iss)] else TL from HTK.out);generalize diffV x1 c.cf.iss=y1 at HE0 HE1 HTK hy1;generalize diffV x2 c.cf.iss=y2 at HE1 HTK hy2;have hun:=HO.out.una;obtain ⟨hun0,hun1,hun2⟩:=hun
    go_upto_region 6 with fail
    go_cut [55] from 33 to 56 (fun v55 wx=>v55= .bool (repP c.sacks c.next (y1,y2))/\Below w.heap.size w wx/\OwnSp wx w.heap.size u9 TL/\wx.cell? ⟨N1+1,0,none⟩=some (.int .i64 y1)/\wx.cell? ⟨N1+1,1,none⟩=some (.int .i64 y2)/\N1+1<wx.heap.size)
    case first =>
     by_cases hs:c.sacks=true
     ·by_cases h1:1<=y1
      focus
       by_cases h2:y1<y2
       ·by_cases h3:y2<=c.next
        ·have HQ:=hid (show true=repP c.sacks c.next (y1,y2) by unfold repP;rw [hs,Bool.true_and];exact (decide_eq_true ⟨h1,h2,h3⟩).symm);refine wp_region_held_drew (S:=(fun W:World=>W.cell? ⟨f.C,8,none⟩=some (.bool c.sacks)/\W.cell? ⟨N1+1,0,none⟩=some (.int .i64 y1)/\W.cell? ⟨N1+1,1,none⟩=some (.int .i64 y2))) (by kernel_rfl) (⟨(HC.out.below HB1.out).cell 8 (.bool c.sacks) rfl,HE0.out,HE1.out⟩) (fun hZ=> ?_);have hb:=(Below.refl w1.heap.size w1).drew;replace HE0:=hid ((hb.cell (p:=⟨N1+1,0,none⟩) HSL.out).trans HE0.out);replace HE1:=hid ((hb.cell (p:=⟨N1+1,1,none⟩) HSL.out).trans HE1.out);replace HSL:=hid (Nat.lt_of_lt_of_le HSL.out hb.size);replace HB1:=hid (HB1.out.trans (hb.mono HB1.out.size));replace HOW1:=hid (HOW1.out.bel hb);clear hb;generalize w1.drew=w2 at HE0 HE1 HSL HB1 HOW1 hZ ⊢;refine wpT 0 ?_;refine wpT 1 ?_;refine wpT 2 ?_;refine wpT 3 (v:=.bool true) ?_ (hy:=by intro w hSw;(obtain ⟨z0,z1,z2⟩:=hSw);rw [hs] at z0;go_simp);refine wpT 4 ?_;refine wpT 5 ?_;refine wpT 6 ?_;refine wpT 7 (v:=.bool true) ?_ (hy:=by intro w hSw;(obtain ⟨z0,z1,z2⟩:=hSw);go_simp;(try first | omega | (rw [decide_eq_true_iff];omega)));refine wpT 8 ?_;refine wpT 9 ?_;refine wpT 10 ?_;refine wpT 11 ?_;refine wpT 12 ?_;refine wpT 13 ?_;refine wpT 14 (v:=.bool true) ?_ (hy:=by intro w hSw;(obtain ⟨z0,z1,z2⟩:=hSw);go_simp;(try first | omega | (rw [decide_eq_true_iff];omega)));refine wpT 15 ?_;refine wpT 16 ?_;refine wpT 17 ?_;refine wpT 18 ?_;refine wpT 19 ?_;refine wpR 20 fun Kq hKq=> ?_;go_simp;refine (tnext_any f c _ (HC.out.below HB1.out)).mono ?_;rintro e w7 ⟨rfl,hb⟩;replace HE0:=hid ((hb.cell (p:=⟨N1+1,0,none⟩) HSL.out).trans HE0.out);replace HE1:=hid ((hb.cell (p:=⟨N1+1,1,none⟩) HSL.out).trans HE1.out);replace HSL:=hid (Nat.lt_of_lt_of_le HSL.out hb.size);replace HB1:=hid (HB1.out.trans (hb.mono HB1.out.size));replace HOW1:=hid (HOW1.out.bel hb);clear hb;go_simp;refine hKq.out _ _ (⟨(HC.out.below HB1.out).cell 8 (.bool c.sacks) rfl,HE0.out,HE1.out⟩) fun hI=>wpA ?_;clear hKq Kq hZ;have hZ:=hI;clear hI;refine wpT 21 (v:=.bool true) ?_ (hy:=by intro w hSw;(obtain ⟨z0,z1,z2⟩:=hSw);go_simp;(try first | omega | (rw [decide_eq_true_iff];omega)));refine wpT 22 ?_;refine wpAnyH_done (by kernel_rfl) ?_ _;clear hZ;go_wp2_with fail
         go_meet
         case rel=>exact ⟨congrArg Value.bool (HQ.out),HB1.out,HOW1.out,HE0.out,HE1.out,HSL.out⟩
        have HQ:=hid (show false=repP c.sacks c.next (y1,y2) by unfold repP;rw [hs,Bool.true_and];exact (decide_eq_false (fun h=>h3 h.2.2)).symm);refine wp_region_held_drew (S:=(fun W:World=>W.cell? ⟨f.C,8,none⟩=some (.bool c.sacks)/\W.cell? ⟨N1+1,0,none⟩=some (.int .i64 y1)/\W.cell? ⟨N1+1,1,none⟩=some (.int .i64 y2))) (by kernel_rfl) (⟨(HC.out.below HB1.out).cell 8 (.bool c.sacks) rfl,HE0.out,HE1.out⟩) (fun hZ=> ?_);have hb:=(Below.refl w1.heap.size w1).drew;replace HE0:=hid ((hb.cell (p:=⟨N1+1,0,none⟩) HSL.out).trans HE0.out);replace HE1:=hid ((hb.cell (p:=⟨N1+1,1,none⟩) HSL.out).trans HE1.out);replace HSL:=hid (Nat.lt_of_lt_of_le HSL.out hb.size);replace HB1:=hid (HB1.out.trans (hb.mono HB1.out.size));replace HOW1:=hid (HOW1.out.bel hb);clear hb;generalize w1.drew=w2 at HE0 HE1 HSL HB1 HOW1 hZ ⊢;refine wpT 0 ?_;refine wpT 1 ?_;refine wpT 2 ?_;refine wpT 3 (v:=.bool true) ?_ (hy:=by intro w hSw;(obtain ⟨z0,z1,z2⟩:=hSw);rw [hs] at z0;go_simp);refine wpT 4 ?_;refine wpT 5 ?_;refine wpT 6 ?_;refine wpT 7 (v:=.bool true) ?_ (hy:=by intro w hSw;(obtain ⟨z0,z1,z2⟩:=hSw);go_simp;(try first | omega | (rw [decide_eq_true_iff];omega)));refine wpT 8 ?_;refine wpT 9 ?_;refine wpT 10 ?_;refine wpT 11 ?_;refine wpT 12 ?_;refine wpT 13 ?_;refine wpT 14 (v:=.bool true) ?_ (hy:=by intro w hSw;(obtain ⟨z0,z1,z2⟩:=hSw);go_simp;(try first | omega | (rw [decide_eq_true_iff];omega)));refine wpT 15 ?_;refine wpT 16 ?_;refine wpT 17 ?_;refine wpT 18 ?_;refine wpT 19 ?_;refine wpR 20 fun Kq hKq=> ?_;go_simp;refine (tnext_any f c _ (HC.out.below HB1.out)).mono ?_;rintro e w7 ⟨rfl,hb⟩;replace HE0:=hid ((hb.cell (p:=⟨N1+1,0,none⟩) HSL.out).trans HE0.out);replace HE1:=hid ((hb.cell (p:=⟨N1+1,1,none⟩) HSL.out).trans HE1.out);replace HSL:=hid (Nat.lt_of_lt_of_le HSL.out hb.size);replace HB1:=hid (HB1.out.trans (hb.mono HB1.out.size));replace HOW1:=hid (HOW1.out.bel hb);clear hb;go_simp;refine hKq.out _ _ (⟨(HC.out.below HB1.out).cell 8 (.bool c.sacks) rfl,HE0.out,HE1.out⟩) fun hI=>wpA ?_;clear hKq Kq hZ;have hZ:=hI;clear hI;refine wpT 21 (v:=.bool false) ?_ (hy:=by intro w hSw;(obtain ⟨z0,z1,z2⟩:=hSw);go_simp;(try first | omega | (rw [decide_eq_false_iff_not];omega)));refine wpT 22 ?_;refine wpAnyH_done (by kernel_rfl) ?_ _;clear hZ;go_wp2_with fail
        go_meet
        case rel=>exact ⟨congrArg Value.bool (HQ.out),HB1.out,HOW1.out,HE0.out,HE1.out,HSL.out⟩
       have HQ:=hid (show false=repP c.sacks c.next (y1,y2) by unfold repP;rw [hs,Bool.true_and];exact (decide_eq_false (fun h=>h2 h.2.1)).symm);refine wp_region_held_drew (S:=(fun W:World=>W.cell? ⟨f.C,8,none⟩=some (.bool c.sacks)/\W.cell? ⟨N1+1,0,none⟩=some (.int .i64 y1)/\W.cell? ⟨N1+1,1,none⟩=some (.int .i64 y2))) (by kernel_rfl) (⟨(HC.out.below HB1.out).cell 8 (.bool c.sacks) rfl,HE0.out,HE1.out⟩) (fun hZ=> ?_);have hb:=(Below.refl w1.heap.size w1).drew;replace HE0:=hid ((hb.cell (p:=⟨N1+1,0,none⟩) HSL.out).trans HE0.out);replace HE1:=hid ((hb.cell (p:=⟨N1+1,1,none⟩) HSL.out).trans HE1.out);replace HSL:=hid (Nat.lt_of_lt_of_le HSL.out hb.size);replace HB1:=hid (HB1.out.trans (hb.mono HB1.out.size));replace HOW1:=hid (HOW1.out.bel hb);clear hb;generalize w1.drew=w2 at HE0 HE1 HSL HB1 HOW1 hZ ⊢;refine wpT 0 ?_;refine wpT 1 ?_;refine wpT 2 ?_;refine wpT 3 (v:=.bool true) ?_ (hy:=by intro w hSw;(obtain ⟨z0,z1,z2⟩:=hSw);rw [hs] at z0;go_simp);refine wpT 4 ?_;refine wpT 5 ?_;refine wpT 6 ?_;refine wpT 7 (v:=.bool true) ?_ (hy:=by intro w hSw;(obtain ⟨z0,z1,z2⟩:=hSw);go_simp;(try first | omega | (rw [decide_eq_true_iff];omega)));refine wpT 8 ?_;refine wpT 9 ?_;refine wpT 10 ?_;refine wpT 11 ?_;refine wpT 12 ?_;refine wpT 13 ?_;refine wpT 14 (v:=.bool false) ?_ (hy:=by intro w hSw;(obtain ⟨z0,z1,z2⟩:=hSw);go_simp;(try first | omega | (rw [decide_eq_false_iff_not];omega)))
      rotate_left 1
      focus
       have HQ:=hid (show false=repP c.sacks c.next (y1,y2) by unfold repP;rw [hs,Bool.true_and];exact (decide_eq_false (fun h=>h1 h.1)).symm);refine wp_region_held_drew (S:=(fun W:World=>W.cell? ⟨f.C,8,none⟩=some (.bool c.sacks)/\W.cell? ⟨N1+1,0,none⟩=some (.int .i64 y1)/\W.cell? ⟨N1+1,1,none⟩=some (.int .i64 y2))) (by kernel_rfl) (⟨(HC.out.below HB1.out).cell 8 (.bool c.sacks) rfl,HE0.out,HE1.out⟩) (fun hZ=> ?_);have hb:=(Below.refl w1.heap.size w1).drew;replace HE0:=hid ((hb.cell (p:=⟨N1+1,0,none⟩) HSL.out).trans HE0.out);replace HE1:=hid ((hb.cell (p:=⟨N1+1,1,none⟩) HSL.out).trans HE1.out);replace HSL:=hid (Nat.lt_of_lt_of_le HSL.out hb.size);replace HB1:=hid (HB1.out.trans (hb.mono HB1.out.size));replace HOW1:=hid (HOW1.out.bel hb);clear hb;generalize w1.drew=w2 at HE0 HE1 HSL HB1 HOW1 hZ ⊢;refine wpT 0 ?_;refine wpT 1 ?_;refine wpT 2 ?_;refine wpT 3 (v:=.bool true) ?_ (hy:=by intro w hSw;(obtain ⟨z0,z1,z2⟩:=hSw);rw [hs] at z0;go_simp);refine wpT 4 ?_;refine wpT 5 ?_;refine wpT 6 ?_;refine wpT 7 (v:=.bool false) ?_ (hy:=by intro w hSw;(obtain ⟨z0,z1,z2⟩:=hSw);go_simp;(try first | omega | (rw [decide_eq_false_iff_not];omega)));refine wpT 8 ?_;refine wpT 9 ?_;refine wpK 10 ?_;refine wpK 11 ?_;refine wpK 12 ?_;refine wpK 13 ?_;refine wpK 14 ?_
      all_goals
       refine wpT 15 ?_;refine wpT 16 ?_;refine wpK 17 ?_;refine wpK 18 ?_;refine wpK 19 ?_;refine wpK 20 ?_;refine wpK 21 ?_;refine wpT 22 ?_;refine wpAnyH_done (by kernel_rfl) ?_ _;clear hZ;go_wp2_with fail
       go_meet
       case rel=>exact ⟨congrArg Value.bool (HQ.out),HB1.out,HOW1.out,HE0.out,HE1.out,HSL.out⟩
     have hs2:c.sacks=false:=by simpa using hs
     have HQ:=hid (show false=repP c.sacks c.next (y1,y2) by unfold repP;rw [hs2];rfl);refine wp_region_held_drew (S:=(fun W:World=>W.cell? ⟨f.C,8,none⟩=some (.bool c.sacks)/\W.cell? ⟨N1+1,0,none⟩=some (.int .i64 y1)/\W.cell? ⟨N1+1,1,none⟩=some (.int .i64 y2))) (by kernel_rfl) (⟨(HC.out.below HB1.out).cell 8 (.bool c.sacks) rfl,HE0.out,HE1.out⟩) (fun hZ=> ?_);have hb:=(Below.refl w1.heap.size w1).drew;replace HE0:=hid ((hb.cell (p:=⟨N1+1,0,none⟩) HSL.out).trans HE0.out);replace HE1:=hid ((hb.cell (p:=⟨N1+1,1,none⟩) HSL.out).trans HE1.out);replace HSL:=hid (Nat.lt_of_lt_of_le HSL.out hb.size);replace HB1:=hid (HB1.out.trans (hb.mono HB1.out.size));replace HOW1:=hid (HOW1.out.bel hb);clear hb;generalize w1.drew=w2 at HE0 HE1 HSL HB1 HOW1 hZ ⊢;refine wpT 0 ?_;refine wpT 1 ?_;refine wpT 2 ?_;refine wpT 3 (v:=.bool false) ?_ (hy:=by intro w hSw;(obtain ⟨z0,z1,z2⟩:=hSw);rw [hs2] at z0;go_simp);refine wpT 4 ?_;refine wpK 5 ?_;refine wpK 6 ?_;refine wpK 7 ?_;refine wpT 8 ?_;refine wpT 9 ?_;refine wpK 10 ?_;refine wpK 11 ?_;refine wpK 12 ?_;refine wpK 13 ?_;refine wpK 14 ?_;refine wpT 15 ?_;refine wpT 16 ?_;refine wpK 17 ?_;refine wpK 18 ?_;refine wpK 19 ?_;refine wpK 20 ?_;refine wpK 21 ?_;refine wpT 22 ?_;refine wpAnyH_done (by kernel_rfl) ?_ _;clear hZ;go_wp2_with fail
     go_meet
     case rel=>exact ⟨congrArg Value.bool (HQ.out),HB1.out,HOW1.out,HE0.out,HE1.out,HSL.out⟩
    case rest =>
     obtain ⟨rfl,hb,ho,e0,e1,hsl⟩:=hcut;have HBW:=hid hb;have HOW:=hid ho;have hsx:=hb.size;clear hb ho HB1 HOW1 HE0 HE1 HSL hy1 hy2;generalize repP c.sacks c.next (y1,y2)=q at HTK
     cases q with
     | false =>
      go_wp2_with fail
      go_roundg (gk-1)
      case measure=>omega
      case rel=>exact ⟨k+1,by go_num,by omega,HBW.out,by rw [HTK.out];exact HOW.out⟩
     | true =>
      have HLN2:=hid (show TL.length<=4398046511104 from Nat.le_trans HLN.out (by decide))
      go_wp2_with (first | (at_builtin;refine wpList_append_span _ rfl _ _ rfl w.heap.size _ _ rfl (HOW.out.alloc _) HLN2.out _ (y1,y2) rfl (by simp) (by simp) (by simp;omega) ?_;intro v4 w4 ho4 hg4 hb4))
      have hb5:=grown_below (N:=w.heap.size) hg4 (by simp;omega) (fun j e=>(HOW.out.lt j e).1);have HB5:=hid ((HBW.out.trans (((Below.refl _ _).alloc (Nat.le_refl _) _).mono HBW.out.size)).trans hb5);clear hb5 hb4 hg4 e0 e1;have HOW4:=hid ho4;clear ho4;go_wp2_with fail
      go_roundg (gk-1)
      case measure=>omega
      case rel=>exact ⟨k+1,by go_num,by omega,HB5.out,by rw [HTK.out];exact HOW4.out⟩
  obtain rfl:k=bl.length:=by omega
  rw [List.take_length] at HOW;obtain ⟨R,hR⟩:∃ R,R=repS c.sacks c.next c.cf.iss bl:=⟨_,rfl⟩;rw [←hR] at HOW;have HRL:=hid (show R.length<=3 from hR ▸ Nat.le_trans (repS_len _ _ _ _) hl);have HR:=hid hR;clear hR hk;obtain ⟨ra,rc,rfl,hrc⟩:=HOW.out.val;clear hrc;have HC1:=hid (HC.out.below HBW.out);have hun:=HO.out.una;obtain ⟨hun0,hun1,hun2⟩:=hun;obtain ⟨ha1,ha2⟩:=ha;go_wp2_with fail;refine (tuna_any f c _ HC1.out).mono ?_;rintro e w1 ⟨rfl,hb⟩;replace HC1:=hid (HC1.out.below hb);replace HBW:=hid (HBW.out.trans (hb.mono HBW.out.size));replace HOW:=hid (HOW.out.bel hb);clear hb;have c0:=HC1.out.cell 0 (.pointer (some ⟨f.S,0,none⟩)) rfl;go_wp2_with fail;refine (scsacked_any f.S (f.S+1) c.sc _ HC1.out.sc).mono ?_;rintro e w2 ⟨v,rfl,ho,hb⟩;have hskl:=HO.out.sklen;obtain ⟨sa,sc,rfl,hsc⟩:=ho.val;clear hsc;have HSP:=hid (show SpAt w2 w2.heap.size sa c.sc.sk from own_spAt ho (by omega));replace HC1:=hid (HC1.out.below hb);replace HBW:=hid (HBW.out.trans (hb.mono HBW.out.size));replace HOW:=hid (HOW.out.bel hb);clear hb ho c0;have HCN:=hid HO.out.sc.csk;go_wp2_with fail
  go_loopg [13,71] c.sc.sk.length (fun g v13 kv wr=>∃ k:Nat,kv= .int .i64 (k:Int)/\g+k=c.sc.sk.length/\v13= .int .i64 (ack-c.una-advF ack (c.sc.sk.take k))/\Below w2.heap.size w2 wr)
  case atStart=>exact ⟨0,rfl,rfl,by rw [List.take_zero];unfold advF;rw [Int.sub_zero],Below.refl _ _⟩
  case round =>
   obtain ⟨k,rfl,hg,rfl,hb⟩:=hrel;have HB2:=hid hb;clear hb;have hav:=advF_bd (ack:=ack) HCN.out k;by_cases hk:k<c.sc.sk.length
   ·obtain ⟨b,boff,rfl,hbl,hcs⟩:=(HSP.out.below HB2.out).cells (by omega);obtain ⟨d0,d1⟩:=hcs k hk;clear hcs;have hki:(k:Int)<(c.sc.sk.length:Int):=by omega
    have HTK:=hid (advF_take ack c.sc.sk k hk);have hav2:=advF_bd (ack:=ack) HCN.out (k+1);have hxb:=canonF_spb HCN.out (List.getElem_mem hk);generalize advF ack (c.sc.sk.take k)=T at HTK hav;rw [HTK.out] at hav2;generalize c.sc.sk[k]=x at d0 d1 HTK hav2 hxb;obtain ⟨x1,x2⟩:=x;dsimp only at d0 d1 hav2 hxb;go_wp2_with fail
    go_roundg (gk-1)
    case measure=>omega
    case rel=>exact ⟨k+1,by go_num,by omega,by rw [HTK.out];go_num,HB2.out.trans (((Below.refl _ _).alloc (Nat.le_refl _) _).mono HB2.out.size)⟩
   obtain rfl:k=c.sc.sk.length:=by omega
   rw [List.take_length] at hav ⊢;have hb:=HB2.out;replace HC1:=hid (HC1.out.below hb);replace HBW:=hid (HBW.out.trans (hb.mono HBW.out.size));replace HOW:=hid (HOW.out.bel hb);clear hb HB2 HSP;have c0:=HC1.out.cell 0 (.pointer (some ⟨f.S,0,none⟩)) rfl;go_wp2_with fail;refine (scacked_any f.S (f.S+1) c.sc ack ra rc R _ HO.out.sc HC1.out.sc ⟨own_spAt HOW.out (by have:=HRL.out;omega),fun hp ad e=>(HOW.out.ty ad e).ne HC1.out.tyS (by decide)⟩ (by rw [List.length_append];have:=HRL.out;omega)).mono ?_;rintro e w4 ⟨rfl,hs,hc⟩;have hnb:=ackN_bd HO.out.sc (R:=R) ⟨ha1,ha2⟩;have HE:=hid (show c.repN ack bl=c.sc.ackN ack R-(ack-c.una-advF ack c.sc.sk) by unfold Cn.repN;rw [HR.out]);generalize c.sc.ackN ack R=an at hnb HE ⊢;have HC2:=hid (HC1.out.onS hs hc);have HX2:=hid ((ChgF.ofB HBW.out).trans (.ofS hc));clear hs hc;go_wp2_with fail;go_ret;exact ⟨by rw [HE.out];rfl,by have:=HC2.out;rw [HR.out] at this;exact this,HX2.out⟩
end
end Go.Proofs.YtclkcmidhhfdmaaGreatDoor
