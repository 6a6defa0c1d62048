import Derived.Test.YtclkcmidhhfdmaaGreatDoorSgEncU
namespace Go.Proofs.YtclkcmidhhfdmaaGreatDoor
open Lib (hid)
open Go.RowKit
theorem yK {B C i:Nat}{v:Value}{w w':World}(h:At B i v w)(hc:Chg C w w')(hne:B≠C):At B i v w':=by
 have hb:=hc.block B h.lt hne;exact⟨(World.cell?_of_block (a:=⟨B,i,none⟩) hb).trans h.1,(World.frozen?_of_block (a:=⟨B,i,none⟩) hb).trans h.2⟩
theorem yB {B C i:Nat}{v:Value}{w w':World}(h:w.cell? ⟨B,i,none⟩=some v)(hc:Chg C w w')(hne:B≠C):w'.cell? ⟨B,i,none⟩=some v :=
 (World.cell?_of_block (a:=⟨B,i,none⟩) (hc.block B (block_lt_of_cell h) hne)).trans h
theorem zm {l:List UInt8}{o b:Nat}(hb1:1<=b)(hb4:b<=4)(h:o+b<=l.length):zC l (o:Int) (b:Int)=rq ((l.drop o).take b):=by
 unfold zC;rw[if_pos ⟨by omega,by omega,by omega,by omega⟩,Int.toNat_natCast,Int.toNat_natCast]
set_option maxHeartbeats 1000000 in
theorem yC (T A:Nat) (t:ByteArray) (o b:Nat) (v:Int) (w:World) (hs:t.size<=1099511627776) (hb1:1<=b) (hb4:b<=4) (h:o+b<=t.size) (hv:((rq ((t.data.toList.drop o).take b):Nat):Int)=v) (hT:w.cell? T=some (.string t)) (hA:At A 0 (o:Int) w) (hTA:T≠A) :
  Calls Tryz.prog 135 #[(b:Int),T,A] w fun e w'=>e= .returned v/\At A 0 ((o:Int)+(b:Int):Int) w'/\Chg A w w':=by
 have HG:=hid (fun W=>zj t (by omega) (o:Int) (b:Int) W);have HV:=hid (show((zC t.data.toList (o:Int) (b:Int):Nat):Int)=v by rw[zm hb1 hb4 (by rw[Array.length_toList];exact h)];exact hv);generalize zi t.data.toList (o:Int) (b:Int)=ge at HG;have HA:=hid hA;have HX:=hid hTA;have aF:=hA.lt;obtain⟨a1,a2⟩:=hA;clear hv hTA
 go_enter Tryz.func135,Tryz.ntmps135
 go_wp2_with fail;refine(HG.o _).mono ?_;rintro e w1⟨rfl,hb⟩;have HC:=hid (Chg.of_below (B:=A) hb);replace HA:=hid (HA.below hb aF);have d1:=HA.1;have d2:=HA.2;rw[HV.o];clear hb a1 a2 hT;go_wp2;go_ret;exact⟨rfl,HA.set _,HC.setCell 0 _⟩
theorem yL {L A B C:List UInt8}{a b n:Nat}(h:L=A++(B++C))(ha:A.length=a)(hb:B=be b n)(hn:n<256 ^ b):rq ((L.drop a).take b)=n:=by
 subst hb;rw[h,<-List.append_assoc,xg ha (dr b n),ue b n hn]
theorem Sg.wr_eq (g:Sg)(sum:Nat):g.wr sum=be 2 g.fp.toNat++(be 2 g.tp.toNat++(be 4 g.sq.toNat++(be 4 g.ak.toNat++(be 1 g.flag++(be 1 g.bl.length++(be 2 g.win.toNat++(be 2 g.mss.toNat++(be 2 sum++(ks g.bl++g.s))))))))):=by
 unfold Sg.wr Sg.head;simp only[List.append_assoc]
theorem Sg.mss_le {g:Sg}(ok:g.Ok):0<=g.mss/\g.mss<=65535:=by
 cases hsy:g.syn with
 | false=>have:=(ok.mss hsy).1;omega
 | true=>rcases ok.mssS hsy with h | h <;> omega
theorem Sg.at0 {g:Sg}(ok:g.Ok)(sum:Nat):rq (((g.wr sum).drop 0).take 2)=g.fp.toNat :=
 yL (A:=[]) (g.wr_eq sum) rfl rfl (by have:=ok.fp;show _<65536;omega)
theorem Sg.at2 {g:Sg}(ok:g.Ok)(sum:Nat):rq (((g.wr sum).drop 2).take 2)=g.tp.toNat :=
 yL (A:=be 2 g.fp.toNat) (g.wr_eq sum) (dr _ _) rfl (by have:=ok.tp;show _<65536;omega)
theorem Sg.at4 {g:Sg}(ok:g.Ok)(sum:Nat):rq (((g.wr sum).drop 4).take 4)=g.sq.toNat :=
 yL (A:=be 2 g.fp.toNat++be 2 g.tp.toNat) (by rw[g.wr_eq sum];simp only[List.append_assoc];rfl) (by simp[dr]) rfl (by have:=ok.sq;show _<4294967296;omega)
theorem Sg.at8 {g:Sg}(ok:g.Ok)(sum:Nat):rq (((g.wr sum).drop 8).take 4)=g.ak.toNat :=
 yL (A:=be 2 g.fp.toNat++(be 2 g.tp.toNat++be 4 g.sq.toNat)) (by rw[g.wr_eq sum];simp only[List.append_assoc];rfl) (by simp[dr]) rfl (by have:=ok.ak;show _<4294967296;omega)
theorem Sg.at12 {g:Sg}(sum:Nat):rq (((g.wr sum).drop 12).take 1)=g.flag :=
 yL (A:=be 2 g.fp.toNat++(be 2 g.tp.toNat++(be 4 g.sq.toNat++be 4 g.ak.toNat))) (by rw[g.wr_eq sum];simp only[List.append_assoc];rfl) (by simp[dr]) rfl (by have:=g.flag_lt;show _<256;omega)
theorem Sg.at13 {g:Sg}(ok:g.Ok)(sum:Nat):rq (((g.wr sum).drop 13).take 1)=g.bl.length :=
 yL (A:=be 2 g.fp.toNat++(be 2 g.tp.toNat++(be 4 g.sq.toNat++(be 4 g.ak.toNat++be 1 g.flag)))) (by rw[g.wr_eq sum];simp only[List.append_assoc];rfl) (by simp[dr]) rfl (by have:=ok.blen;show _<256;omega)
theorem Sg.at14 {g:Sg}(ok:g.Ok)(sum:Nat):rq (((g.wr sum).drop 14).take 2)=g.win.toNat :=
 yL (A:=be 2 g.fp.toNat++(be 2 g.tp.toNat++(be 4 g.sq.toNat++(be 4 g.ak.toNat++(be 1 g.flag++be 1 g.bl.length))))) (by rw[g.wr_eq sum];simp only[List.append_assoc];rfl) (by simp[dr]) rfl (by have:=ok.win;show _<65536;omega)
theorem Sg.at16 {g:Sg}(ok:g.Ok)(sum:Nat):rq (((g.wr sum).drop 16).take 2)=g.mss.toNat :=
 yL (A:=be 2 g.fp.toNat++(be 2 g.tp.toNat++(be 4 g.sq.toNat++(be 4 g.ak.toNat++(be 1 g.flag++(be 1 g.bl.length++be 2 g.win.toNat)))))) (by rw[g.wr_eq sum];simp only[List.append_assoc];rfl) (by simp[dr]) rfl (by have:=Sg.mss_le ok;show _<65536;omega)
theorem Sg.at18 {g:Sg}(sum:Nat)(h:sum<65536):rq (((g.wr sum).drop 18).take 2)=sum :=
 yL (A:=be 2 g.fp.toNat++(be 2 g.tp.toNat++(be 4 g.sq.toNat++(be 4 g.ak.toNat++(be 1 g.flag++(be 1 g.bl.length++(be 2 g.win.toNat++be 2 g.mss.toNat))))))) (by rw[g.wr_eq sum];simp only[List.append_assoc];rfl) (by simp[dr]) rfl h
theorem Sg.wr_blk (g:Sg)(sum k:Nat)(hk:k<g.bl.length):g.wr sum=g.head++be 2 sum++ks (g.bl.take k)++(be 4 g.bl[k].1.toNat++(be 4 g.bl[k].2.toNat++(ks (g.bl.drop (k+1))++g.s))):=by
 have h:ks g.bl=ks (g.bl.take k)++(be 4 g.bl[k].1.toNat++be 4 g.bl[k].2.toNat++ks (g.bl.drop (k+1))):=by
  have e:g.bl=g.bl.take k++g.bl[k]::g.bl.drop (k+1):=by rw[<-List.drop_eq_getElem_cons hk,List.take_append_drop]
  conv=>lhs;rw[e]
  rw[vt];rfl
 unfold Sg.wr;rw[h];simp only[List.append_assoc]
theorem Sg.atA {g:Sg}(ok:g.Ok)(sum k:Nat)(hk:k<g.bl.length):rq (((g.wr sum).drop (20+8*k)).take 4)=g.bl[k].1.toNat :=
 yL (g.wr_blk sum k hk) (by simp[dr,Sg.head_length,mg];omega) rfl (by have:=(ok.blk _ (List.getElem_mem hk)).1;show _<4294967296;omega)
theorem Sg.atB {g:Sg}(ok:g.Ok)(sum k:Nat)(hk:k<g.bl.length):rq (((g.wr sum).drop (24+8*k)).take 4)=g.bl[k].2.toNat :=
 yL (A:=g.head++be 2 sum++ks (g.bl.take k)++be 4 g.bl[k].1.toNat) (by rw[g.wr_blk sum k hk,List.append_assoc _ (be 4 _)]) (by simp[dr,Sg.head_length,mg];omega) rfl (by have:=(ok.blk _ (List.getElem_mem hk)).2.1;show _<4294967296;omega)
theorem Sg.atS (g:Sg)(sum:Nat):(g.wr sum).drop (20+8*g.bl.length)=g.s:=by
 unfold Sg.wr;rw[List.drop_left' (by simp[dr,Sg.head_length,mg];omega)]
end Go.Proofs.YtclkcmidhhfdmaaGreatDoor
