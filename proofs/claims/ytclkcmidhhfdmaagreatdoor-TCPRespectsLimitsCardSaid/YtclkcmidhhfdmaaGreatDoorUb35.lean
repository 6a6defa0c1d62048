import Derived.Test.YtclkcmidhhfdmaaGreatDoorUb34
namespace Go.Proofs.YtclkcmidhhfdmaaGreatDoor
open Lib (hid)
section
set_option maxHeartbeats 8000000
set_option maxRecDepth 100000
open Go.RowKit Go.Shelf
theorem takeS_len {b:Bx}(ok:b.Ok)(n:Int):(b.takeS n).length<=8192:=by
 have h1:=ok.most;have h2:=ok.one;have h3:=ok.rdnx;have h4:=ok.nxend;unfold Bx.takeS;split
 ·exact Nat.zero_le _
 rw[readB_len _ _ _ h2 (by omega)];omega
theorem trecvP_any (N:Nat) (t:Ft) (p:Pr) (i:Bool) (n:Int) (w:World) (q r:Int) (h:PrAt N t p w) (hk:Pr.Fit p q r) (hq:q<=90000000) (hr:r<=90000000000) (hm:p.Ml) (hn:0<=n/\n<=1000000) (hg:(p.sd i).got.length<=1000000) :
  Calls Tryz.prog 40 #[.pointer (some ⟨t.B,0,none⟩),.int .i64 (bI i),.int .i64 n] w (PutOut N t w (p.recv i n)):=by
 cases i
 ·have y0:w.cell? ⟨t.B,0,none⟩=some (.pointer (some ⟨t.fa.C,0,none⟩)):=h.cell 0 _ rfl;have y1:w.cell? ⟨t.B,1,none⟩=some (.string ⟨p.a.all.toArray⟩):=h.cell 1 _ rfl;have y2:w.cell? ⟨t.B,2,none⟩=some (.int .i64 p.a.sent):=h.cell 2 _ rfl;have y3:w.cell? ⟨t.B,3,none⟩=some (.string ⟨p.a.got.toArray⟩):=h.cell 3 _ rfl;have y4:w.cell? ⟨t.B,4,none⟩=some (.bool p.a.fin):=h.cell 4 _ rfl;have y5:w.cell? ⟨t.B,5,none⟩=some (.bool p.a.closed):=h.cell 5 _ rfl;have HN64:=hid hk.in64;have HKF:=hid (Pr.recv_fit hk false n);have HOK:=hid hk.a.c;have HML:=hid hm;have HWL:=hid hk.wlen;have HNOW:=hid hk.now;have HPA:=hid h;have HGL:=hid (show p.a.got.length<=1000000 from hg);obtain⟨hn0,hn1⟩:=hn;show Calls _ _ #[.pointer (some ⟨t.B,0,none⟩),.int .i64 0,.int .i64 n] _ _;clear h hk hm hg;obtain⟨R,hR⟩:∃R,R=p.recv false n:=⟨_,rfl⟩;rw[<-hR];have HR:=hid hR;clear hR;have HRT:=hid (show p.a.c.recvT n=(p.a.c.bx.takeS n)from if_neg (by omega))
  go_enter Tryz.func40,Tryz.ntmps40
  go_wp2_with fail;clear y0 y1 y2 y3 y4 y5;change Code.wp _ _ _ _ (w.alloc (.cells (sdL t.fa p.a).toArray 36));have HS:=hid (Ps.new (PrSt.start HPA.o) t.fa p.a);generalize hF:w.heap.size=F at HS|-;generalize w.alloc (.cells (sdL t.fa p.a).toArray 36)=w1 at HS|-;have y0:=HS.row.cell 0 _ rfl;go_wp2_with fail;clear y0;refine wpB (fun W:World=>W.cell? ⟨F,0,none⟩=some (.pointer (some ⟨t.fa.C,0,none⟩))/\W.cell? ⟨t.B,13,none⟩=some (.int .i64 p.now)) (⟨HS.row.cell 0 _ rfl,HS.st.cell 13 (.int .i64 p.now) rfl⟩) fun hZ=>?_;replace HS:=hid (HS.bel (Below.refl _ _).drew);generalize w1.drew=w3 at HS hZ|-;refine wpT4 0 1 2 3 ?_;refine wpT2 4 5 ?_;refine wpT 6 ?_;refine wpR 7 fun Kq hKq=> ?_;go_simp;refine(trecv_any t.fa p.a.c p.now n _ HS.st.pa.a HOK.o HN64.o).mono ?_;rintro e w4⟨v,rfl,hl,hc,hch⟩;have k4:=HS.st.pa.onC false t.fa.G _ hc hch (.inl rfl);replace HS:=hid (HS.step k4);have HOL:=hid hl;clear hl hc hch k4;dsimp only[recvVals];rw[HRT.o];go_simp;refine hKq.out _ _ (⟨HS.row.cell 0 _ rfl,HS.st.cell 13 (.int .i64 p.now) rfl⟩) ?_;clear hKq Kq hZ;refine fun hZ=>wpA ?_;refine wpT4 8 9 10 11 ?_;refine wpT4 12 13 14 15 ?_;refine wpT 16 ?_;refine wpD ?_ _;clear hZ;by_cases he:p.a.c.recvErr n=0
  ·have HE:=hid (show p.a.c.recvErr n=0 from he);have HRF:=hid (show p.a.c.recvF n=p.a.c.recvE n from(if_neg (by omega)).trans (if_pos HE.o));have HSE:=hid (show p.recv false n=(p.setSd false { p.a with c:=(p.a.c.recv p.now n).1,got:=p.a.got++(p.a.c.bx.takeS n),fin:=p.a.fin||p.a.c.recvE n }).put false (p.a.c.recv p.now n).2 from by unfold Pr.recv;dsimp only;rw[if_neg (show ¬(p.sd false).c.recvErr n≠0 from fun hh=>hh HE.o)];rfl);go_wp2_with fail;rw[HRF.o];have HTL:=hid (takeS_len HOK.bx n);have hadd:∀W:World,(Op.stringOp .add (⟨p.a.got.toArray⟩:ByteArray) (⟨(p.a.c.bx.takeS n).toArray⟩:ByteArray)).run Tryz.prog W= .ok (.string ⟨(p.a.got++(p.a.c.bx.takeS n)).toArray⟩) W:=fun W=>run_string_add_sum W _ _ (by have h1:=HGL.o;have h2:=HTL.o;simp[ByteArray.size];omega);refine wpB (fun W:World=>W.cell? ⟨F,3,none⟩=some (.string ⟨p.a.got.toArray⟩)) (HS.row.cell 3 _ rfl) fun hZ=>?_;replace HS:=hid (HS.bel (Below.refl _ _).drew);have HOL5:=hid (HOL.below (Below.refl w4.heap.size w4).drew);generalize w4.drew=w5 at HS hZ HOL5|-;have c3:w5.cell? ⟨t.B,3,none⟩=some (.string ⟨p.a.got.toArray⟩):=HS.st.cell 3 _ rfl;have f3:=HS.st.free 3;have HT:=hid (HS.set 3 (.string ⟨(p.a.got++(p.a.c.bx.takeS n)).toArray⟩) (p.setSd false { p.a with c:=(p.a.c.recv p.now n).1,got:=p.a.got++(p.a.c.bx.takeS n) }) rfl rfl rfl rfl rfl rfl);refine wpT4 0 1 2 3 ?_;refine wpT4 4 5 6 7 ?_;refine wpT2 8 9 ?_;refine wpR 10 fun Kq hKq=> ?_;go_simp;refine hKq.out _ _ (HT.row.cell 3 _ rfl) ?_;clear hKq Kq hZ;refine fun hZ=>wpA ?_;refine wpD ?_ _;clear hZ c3 f3 hadd;generalize hw6:w5.setCell ⟨t.B,3,none⟩ (.string ⟨(p.a.got++(p.a.c.bx.takeS n)).toArray⟩)=w6 at HT|-;have HOL6:=hid (show OwnS w6 _ v _ from by rw[<-hw6];exact HOL5.prFr HS.st.pa (by rw[<-HS.st.eB];exact(HS.st.pa.set 3 (.string ⟨(p.a.got++(p.a.c.bx.takeS n)).toArray⟩) (p.setSd false { p.a with c:=(p.a.c.recv p.now n).1,got:=p.a.got++(p.a.c.bx.takeS n) }) rfl rfl rfl rfl rfl rfl).fr));clear hw6 HS HOL5;go_wp2_with fail;by_cases hfin:p.a.fin=true
   focus
    refine wpB (fun W:World=>W.cell? ⟨F,4,none⟩=some (.bool true)) (HT.row.cell 4 _ (by show some (Value.bool p.a.fin)=_;rw[hfin])) fun hZ=>?_;replace HT:=hid (HT.bel (Below.refl _ _).drew);have HOL7:=hid (HOL6.below (Below.refl w6.heap.size w6).drew);generalize w6.drew=w7 at HT HOL7 hZ|-;have c4:w7.cell? ⟨t.B,4,none⟩=some (.bool true):=(HT.st.cell 4 (.bool p.a.fin) rfl).trans (by rw[hfin]);have f4:=HT.st.free 4;have HU:=hid (HT.set 4 (.bool true) (p.setSd false { p.a with c:=(p.a.c.recv p.now n).1,got:=p.a.got++(p.a.c.bx.takeS n),fin:=true }) rfl rfl rfl rfl rfl rfl);refine wpT4 0 1 2 3 ?_;refine wpT 4 ?_;refine wpK 5 ?_;refine wpT4 6 7 8 9 ?_;refine wpT 10 ?_;refine wpR 11 fun Kq hKq=> ?_;go_simp;refine hKq.out _ _ (HU.row.cell 4 _ (by show some (Value.bool p.a.fin)=_;rw[hfin])) ?_;clear hKq Kq hZ;refine fun hZ=>wpA ?_;refine wpD ?_ _;clear hZ c4 f4;generalize hw8:w7.setCell ⟨t.B,4,none⟩ (.bool true)=w8 at HU|-;have HSE2:=hid (show p.recv false n=(p.setSd false { p.a with c:=(p.a.c.recv p.now n).1,got:=p.a.got++(p.a.c.bx.takeS n),fin:=true }).put false (p.a.c.recv p.now n).2 from by rw[HSE.o,hfin];rfl);have HOL8:=hid (show OwnS w8 _ v _ from by rw[<-hw8];exact HOL7.prFr HT.st.pa (by rw[<-HT.st.eB];exact(HT.st.pa.set 4 (.bool true) (p.setSd false { p.a with c:=(p.a.c.recv p.now n).1,got:=p.a.got++(p.a.c.bx.takeS n),fin:=true }) rfl rfl rfl rfl rfl rfl).fr));clear hw8 hfin;have HBD:=hid (put_bd2 (X:=p.setSd false { p.a with c:=(p.a.c.recv p.now n).1,got:=p.a.got++(p.a.c.bx.takeS n),fin:=true }) (i:=false) (l:=(p.a.c.recv p.now n).2) (by rw[<-HSE2.o];exact HKF.o) (by have:=HWL.o;show p.wire.length<=400000000;omega) (HML.setSd false _) (by omega))
   rotate_left 1
   focus
    replace hfin:p.a.fin=false:=by simpa using hfin
    refine wpB (fun W:World=>W.cell? ⟨F,4,none⟩=some (.bool false)) (HT.row.cell 4 _ (by show some (Value.bool p.a.fin)=_;rw[hfin])) fun hZ=>?_;replace HT:=hid (HT.bel (Below.refl _ _).drew);have HOL7:=hid (HOL6.below (Below.refl w6.heap.size w6).drew);generalize w6.drew=w7 at HT HOL7 hZ|-;have c4:w7.cell? ⟨t.B,4,none⟩=some (.bool false):=(HT.st.cell 4 (.bool p.a.fin) rfl).trans (by rw[hfin]);have f4:=HT.st.free 4;have HU:=hid (HT.set 4 (.bool (p.a.c.recvE n)) (p.setSd false { p.a with c:=(p.a.c.recv p.now n).1,got:=p.a.got++(p.a.c.bx.takeS n),fin:=(p.a.c.recvE n) }) rfl rfl rfl rfl rfl rfl);refine wpT4 0 1 2 3 ?_;refine wpT4 4 5 6 7 ?_;refine wpT2 8 9 ?_;refine wpT 10 ?_;refine wpR 11 fun Kq hKq=> ?_;go_simp;refine hKq.out _ _ (HU.row.cell 4 _ (by show some (Value.bool p.a.fin)=_;rw[hfin])) ?_;clear hKq Kq hZ;refine fun hZ=>wpA ?_;refine wpD ?_ _;clear hZ c4 f4;generalize hw8:w7.setCell ⟨t.B,4,none⟩ (.bool (p.a.c.recvE n))=w8 at HU|-;have HSE2:=hid (show p.recv false n=(p.setSd false { p.a with c:=(p.a.c.recv p.now n).1,got:=p.a.got++(p.a.c.bx.takeS n),fin:=(p.a.c.recvE n) }).put false (p.a.c.recv p.now n).2 from by rw[HSE.o,hfin];rfl);have HOL8:=hid (show OwnS w8 _ v _ from by rw[<-hw8];exact HOL7.prFr HT.st.pa (by rw[<-HT.st.eB];exact(HT.st.pa.set 4 (.bool (p.a.c.recvE n)) (p.setSd false { p.a with c:=(p.a.c.recv p.now n).1,got:=p.a.got++(p.a.c.bx.takeS n),fin:=(p.a.c.recvE n) }) rfl rfl rfl rfl rfl rfl).fr));clear hw8 hfin;have HBD:=hid (put_bd2 (X:=p.setSd false { p.a with c:=(p.a.c.recv p.now n).1,got:=p.a.got++(p.a.c.bx.takeS n),fin:=(p.a.c.recvE n) }) (i:=false) (l:=(p.a.c.recv p.now n).2) (by rw[<-HSE2.o];exact HKF.o) (by have:=HWL.o;show p.wire.length<=400000000;omega) (HML.setSd false _) (by omega))
   all_goals
    have HPUT:=tput_any N _ _ false _ v _ _ HU.st.pa HOL8.o HBD.1 HBD.2.1 HBD.2.2 HNOW.o;rw[HU.st.eB,show bI false=0 from rfl]at HPUT;go_wp2_with fail;refine HPUT.mono ?_;rintro e w9⟨rfl,t9,k9⟩;go_wp2_with fail
    go_end0
    exact⟨rfl,t9,by rw[HR.o,HSE2.o];exact HU.st.trans k9⟩
  have HNE:=hid (show ¬p.a.c.recvErr n=0 from he);go_wp2_with fail
  go_end0
  have e2:p.recv false n=p.setC false (p.a.c.recv p.now n).1:=by unfold Pr.recv;dsimp only;exact if_pos (show(p.sd false).c.recvErr n≠0 from HNE.o)
  refine⟨rfl,?_⟩;rw[HR.o,e2];exact⟨_,HS.st⟩
 have y0:w.cell? ⟨t.B,6,none⟩=some (.pointer (some ⟨t.fb.C,0,none⟩)):=h.cell 6 _ rfl;have y1:w.cell? ⟨t.B,7,none⟩=some (.string ⟨p.b.all.toArray⟩):=h.cell 7 _ rfl;have y2:w.cell? ⟨t.B,8,none⟩=some (.int .i64 p.b.sent):=h.cell 8 _ rfl;have y3:w.cell? ⟨t.B,9,none⟩=some (.string ⟨p.b.got.toArray⟩):=h.cell 9 _ rfl;have y4:w.cell? ⟨t.B,10,none⟩=some (.bool p.b.fin):=h.cell 10 _ rfl;have y5:w.cell? ⟨t.B,11,none⟩=some (.bool p.b.closed):=h.cell 11 _ rfl;have HN64:=hid hk.in64;have HKF:=hid (Pr.recv_fit hk true n);have HOK:=hid hk.b.c;have HML:=hid hm;have HWL:=hid hk.wlen;have HNOW:=hid hk.now;have HPA:=hid h;have HGL:=hid (show p.b.got.length<=1000000 from hg);obtain⟨hn0,hn1⟩:=hn;show Calls _ _ #[.pointer (some ⟨t.B,0,none⟩),.int .i64 1,.int .i64 n] _ _;clear h hk hm hg;obtain⟨R,hR⟩:∃R,R=p.recv true n:=⟨_,rfl⟩;rw[<-hR];have HR:=hid hR;clear hR;have HRT:=hid (show p.b.c.recvT n=(p.b.c.bx.takeS n)from if_neg (by omega))
 go_enter Tryz.func40,Tryz.ntmps40
 go_wp2_with fail;clear y0 y1 y2 y3 y4 y5;change Code.wp _ _ _ _ (w.alloc (.cells (sdL t.fb p.b).toArray 36));have HS:=hid (Ps.new (PrSt.start HPA.o) t.fb p.b);generalize hF:w.heap.size=F at HS|-;generalize w.alloc (.cells (sdL t.fb p.b).toArray 36)=w1 at HS|-;have y0:=HS.row.cell 0 _ rfl;go_wp2_with fail;clear y0;refine wpB (fun W:World=>W.cell? ⟨F,0,none⟩=some (.pointer (some ⟨t.fb.C,0,none⟩))/\W.cell? ⟨t.B,13,none⟩=some (.int .i64 p.now)) (⟨HS.row.cell 0 _ rfl,HS.st.cell 13 (.int .i64 p.now) rfl⟩) fun hZ=>?_;replace HS:=hid (HS.bel (Below.refl _ _).drew);generalize w1.drew=w3 at HS hZ|-;refine wpT4 0 1 2 3 ?_;refine wpT2 4 5 ?_;refine wpT 6 ?_;refine wpR 7 fun Kq hKq=> ?_;go_simp;refine(trecv_any t.fb p.b.c p.now n _ HS.st.pa.b HOK.o HN64.o).mono ?_;rintro e w4⟨v,rfl,hl,hc,hch⟩;have k4:=HS.st.pa.onC true t.fb.G _ hc hch (.inl rfl);replace HS:=hid (HS.step k4);have HOL:=hid hl;clear hl hc hch k4;dsimp only[recvVals];rw[HRT.o];go_simp;refine hKq.out _ _ (⟨HS.row.cell 0 _ rfl,HS.st.cell 13 (.int .i64 p.now) rfl⟩) ?_;clear hKq Kq hZ;refine fun hZ=>wpA ?_;refine wpT4 8 9 10 11 ?_;refine wpT4 12 13 14 15 ?_;refine wpT 16 ?_;refine wpD ?_ _;clear hZ;by_cases he:p.b.c.recvErr n=0
 ·have HE:=hid (show p.b.c.recvErr n=0 from he);have HRF:=hid (show p.b.c.recvF n=p.b.c.recvE n from(if_neg (by omega)).trans (if_pos HE.o));have HSE:=hid (show p.recv true n=(p.setSd true { p.b with c:=(p.b.c.recv p.now n).1,got:=p.b.got++(p.b.c.bx.takeS n),fin:=p.b.fin||p.b.c.recvE n }).put true (p.b.c.recv p.now n).2 from by unfold Pr.recv;dsimp only;rw[if_neg (show ¬(p.sd true).c.recvErr n≠0 from fun hh=>hh HE.o)];rfl);go_wp2_with fail;rw[HRF.o];have HTL:=hid (takeS_len HOK.bx n);have hadd:∀W:World,(Op.stringOp .add (⟨p.b.got.toArray⟩:ByteArray) (⟨(p.b.c.bx.takeS n).toArray⟩:ByteArray)).run Tryz.prog W= .ok (.string ⟨(p.b.got++(p.b.c.bx.takeS n)).toArray⟩) W:=fun W=>run_string_add_sum W _ _ (by have h1:=HGL.o;have h2:=HTL.o;simp[ByteArray.size];omega);refine wpB (fun W:World=>W.cell? ⟨F,3,none⟩=some (.string ⟨p.b.got.toArray⟩)) (HS.row.cell 3 _ rfl) fun hZ=>?_;replace HS:=hid (HS.bel (Below.refl _ _).drew);have HOL5:=hid (HOL.below (Below.refl w4.heap.size w4).drew);generalize w4.drew=w5 at HS hZ HOL5|-;have c3:w5.cell? ⟨t.B,9,none⟩=some (.string ⟨p.b.got.toArray⟩):=HS.st.cell 9 _ rfl;have f3:=HS.st.free 9;have HT:=hid (HS.set 9 (.string ⟨(p.b.got++(p.b.c.bx.takeS n)).toArray⟩) (p.setSd true { p.b with c:=(p.b.c.recv p.now n).1,got:=p.b.got++(p.b.c.bx.takeS n) }) rfl rfl rfl rfl rfl rfl);refine wpT4 0 1 2 3 ?_;refine wpT4 4 5 6 7 ?_;refine wpT2 8 9 ?_;refine wpR 10 fun Kq hKq=> ?_;go_simp;refine hKq.out _ _ (HT.row.cell 3 _ rfl) ?_;clear hKq Kq hZ;refine fun hZ=>wpA ?_;refine wpD ?_ _;clear hZ c3 f3 hadd;generalize hw6:w5.setCell ⟨t.B,9,none⟩ (.string ⟨(p.b.got++(p.b.c.bx.takeS n)).toArray⟩)=w6 at HT|-;have HOL6:=hid (show OwnS w6 _ v _ from by rw[<-hw6];exact HOL5.prFr HS.st.pa (by rw[<-HS.st.eB];exact(HS.st.pa.set 9 (.string ⟨(p.b.got++(p.b.c.bx.takeS n)).toArray⟩) (p.setSd true { p.b with c:=(p.b.c.recv p.now n).1,got:=p.b.got++(p.b.c.bx.takeS n) }) rfl rfl rfl rfl rfl rfl).fr));clear hw6 HS HOL5;go_wp2_with fail;by_cases hfin:p.b.fin=true
  focus
   refine wpB (fun W:World=>W.cell? ⟨F,4,none⟩=some (.bool true)) (HT.row.cell 4 _ (by show some (Value.bool p.b.fin)=_;rw[hfin])) fun hZ=>?_;replace HT:=hid (HT.bel (Below.refl _ _).drew);have HOL7:=hid (HOL6.below (Below.refl w6.heap.size w6).drew);generalize w6.drew=w7 at HT HOL7 hZ|-;have c4:w7.cell? ⟨t.B,10,none⟩=some (.bool true):=(HT.st.cell 10 (.bool p.b.fin) rfl).trans (by rw[hfin]);have f4:=HT.st.free 10;have HU:=hid (HT.set 10 (.bool true) (p.setSd true { p.b with c:=(p.b.c.recv p.now n).1,got:=p.b.got++(p.b.c.bx.takeS n),fin:=true }) rfl rfl rfl rfl rfl rfl);refine wpT4 0 1 2 3 ?_;refine wpT 4 ?_;refine wpK 5 ?_;refine wpT4 6 7 8 9 ?_;refine wpT 10 ?_;refine wpR 11 fun Kq hKq=> ?_;go_simp;refine hKq.out _ _ (HU.row.cell 4 _ (by show some (Value.bool p.b.fin)=_;rw[hfin])) ?_;clear hKq Kq hZ;refine fun hZ=>wpA ?_;refine wpD ?_ _;clear hZ c4 f4;generalize hw8:w7.setCell ⟨t.B,10,none⟩ (.bool true)=w8 at HU|-;have HSE2:=hid (show p.recv true n=(p.setSd true { p.b with c:=(p.b.c.recv p.now n).1,got:=p.b.got++(p.b.c.bx.takeS n),fin:=true }).put true (p.b.c.recv p.now n).2 from by rw[HSE.o,hfin];rfl);have HOL8:=hid (show OwnS w8 _ v _ from by rw[<-hw8];exact HOL7.prFr HT.st.pa (by rw[<-HT.st.eB];exact(HT.st.pa.set 10 (.bool true) (p.setSd true { p.b with c:=(p.b.c.recv p.now n).1,got:=p.b.got++(p.b.c.bx.takeS n),fin:=true }) rfl rfl rfl rfl rfl rfl).fr));clear hw8 hfin;have HBD:=hid (put_bd2 (X:=p.setSd true { p.b with c:=(p.b.c.recv p.now n).1,got:=p.b.got++(p.b.c.bx.takeS n),fin:=true }) (i:=true) (l:=(p.b.c.recv p.now n).2) (by rw[<-HSE2.o];exact HKF.o) (by have:=HWL.o;show p.wire.length<=400000000;omega) (HML.setSd true _) (by omega))
  rotate_left 1
  focus
   replace hfin:p.b.fin=false:=by simpa using hfin
   refine wpB (fun W:World=>W.cell? ⟨F,4,none⟩=some (.bool false)) (HT.row.cell 4 _ (by show some (Value.bool p.b.fin)=_;rw[hfin])) fun hZ=>?_;replace HT:=hid (HT.bel (Below.refl _ _).drew);have HOL7:=hid (HOL6.below (Below.refl w6.heap.size w6).drew);generalize w6.drew=w7 at HT HOL7 hZ|-;have c4:w7.cell? ⟨t.B,10,none⟩=some (.bool false):=(HT.st.cell 10 (.bool p.b.fin) rfl).trans (by rw[hfin]);have f4:=HT.st.free 10;have HU:=hid (HT.set 10 (.bool (p.b.c.recvE n)) (p.setSd true { p.b with c:=(p.b.c.recv p.now n).1,got:=p.b.got++(p.b.c.bx.takeS n),fin:=(p.b.c.recvE n) }) rfl rfl rfl rfl rfl rfl);refine wpT4 0 1 2 3 ?_;refine wpT4 4 5 6 7 ?_;refine wpT2 8 9 ?_;refine wpT 10 ?_;refine wpR 11 fun Kq hKq=> ?_;go_simp;refine hKq.out _ _ (HU.row.cell 4 _ (by show some (Value.bool p.b.fin)=_;rw[hfin])) ?_;clear hKq Kq hZ;refine fun hZ=>wpA ?_;refine wpD ?_ _;clear hZ c4 f4;generalize hw8:w7.setCell ⟨t.B,10,none⟩ (.bool (p.b.c.recvE n))=w8 at HU|-;have HSE2:=hid (show p.recv true n=(p.setSd true { p.b with c:=(p.b.c.recv p.now n).1,got:=p.b.got++(p.b.c.bx.takeS n),fin:=(p.b.c.recvE n) }).put true (p.b.c.recv p.now n).2 from by rw[HSE.o,hfin];rfl);have HOL8:=hid (show OwnS w8 _ v _ from by rw[<-hw8];exact HOL7.prFr HT.st.pa (by rw[<-HT.st.eB];exact(HT.st.pa.set 10 (.bool (p.b.c.recvE n)) (p.setSd true { p.b with c:=(p.b.c.recv p.now n).1,got:=p.b.got++(p.b.c.bx.takeS n),fin:=(p.b.c.recvE n) }) rfl rfl rfl rfl rfl rfl).fr));clear hw8 hfin;have HBD:=hid (put_bd2 (X:=p.setSd true { p.b with c:=(p.b.c.recv p.now n).1,got:=p.b.got++(p.b.c.bx.takeS n),fin:=(p.b.c.recvE n) }) (i:=true) (l:=(p.b.c.recv p.now n).2) (by rw[<-HSE2.o];exact HKF.o) (by have:=HWL.o;show p.wire.length<=400000000;omega) (HML.setSd true _) (by omega))
  all_goals
   have HPUT:=tput_any N _ _ true _ v _ _ HU.st.pa HOL8.o HBD.1 HBD.2.1 HBD.2.2 HNOW.o;rw[HU.st.eB,show bI true=1 from rfl]at HPUT;go_wp2_with fail;refine HPUT.mono ?_;rintro e w9⟨rfl,t9,k9⟩;go_wp2_with fail
   go_end0
   exact⟨rfl,t9,by rw[HR.o,HSE2.o];exact HU.st.trans k9⟩
 have HNE:=hid (show ¬p.b.c.recvErr n=0 from he);go_wp2_with fail
 go_end0
 have e2:p.recv true n=p.setC true (p.b.c.recv p.now n).1:=by unfold Pr.recv;dsimp only;exact if_pos (show(p.sd true).c.recvErr n≠0 from HNE.o)
 refine⟨rfl,?_⟩;rw[HR.o,e2];exact⟨_,HS.st⟩
end
section
set_option maxHeartbeats 8000000
set_option maxRecDepth 100000
open Go.RowKit Go.Shelf
theorem tsendP_any (N:Nat) (t:Ft) (p:Pr) (i:Bool) (n:Int) (w:World) (q r:Int) (h:PrAt N t p w) (hk:Pr.Fit p q r) (hq:q<=90000000) (hr:r<=90000000000) (hm:p.Ml) (hn:0<=n/\n<=1000000) :
  Calls Tryz.prog 44 #[.pointer (some ⟨t.B,0,none⟩),.int .i64 (bI i),.int .i64 n] w (PutOut N t w (p.send i n)):=by
 cases i
 ·have y0:w.cell? ⟨t.B,0,none⟩=some (.pointer (some ⟨t.fa.C,0,none⟩)):=h.cell 0 _ rfl;have y1:w.cell? ⟨t.B,1,none⟩=some (.string ⟨p.a.all.toArray⟩):=h.cell 1 _ rfl;have y2:w.cell? ⟨t.B,2,none⟩=some (.int .i64 p.a.sent):=h.cell 2 _ rfl;have y3:w.cell? ⟨t.B,3,none⟩=some (.string ⟨p.a.got.toArray⟩):=h.cell 3 _ rfl;have y4:w.cell? ⟨t.B,4,none⟩=some (.bool p.a.fin):=h.cell 4 _ rfl;have y5:w.cell? ⟨t.B,5,none⟩=some (.bool p.a.closed):=h.cell 5 _ rfl;have HN64:=hid hk.in64;have HKF:=hid (Pr.send_fit hk false n);have HSK:=hid (hk.sd false);have HOK:=hid hk.a.c;have HML:=hid hm;have HWL:=hid hk.wlen;have HNOW:=hid hk.now;have HPA:=hid h;obtain⟨hn0,hn1⟩:=hn;have hs0:0<=p.a.sent:=hk.a.s0;have hs1:p.a.sent<=p.a.all.length:=hk.a.sl;have hs2:p.a.all.length<=1000:=hk.a.len;show Calls _ _ #[.pointer (some ⟨t.B,0,none⟩),.int .i64 0,.int .i64 n] _ _;clear h hk hm;have hz:(⟨p.a.all.toArray⟩:ByteArray).size=p.a.all.length:=by simp[ByteArray.size]
  obtain⟨R,hR⟩:∃R,R=p.send false n:=⟨_,rfl⟩;rw[<-hR];have HR:=hid hR;clear hR
  go_enter Tryz.func44,Tryz.ntmps44
  by_cases hcl:p.a.closed=true
  ·go_wp2_with fail;refine bodyPost_ret (results_none rfl _ _ _) rfl ⟨rfl,t,?_⟩;rw[HR.o];have e:p.send false n=p:=by unfold Pr.send;exact if_pos ((.inl hcl))
   rw[e];exact HPA.alloc _
  replace hcl:p.a.closed=false:=by simpa using hcl
  by_cases hlt:(p.a.all.length:Int)<=p.a.sent
  ·go_wp2_with fail;refine bodyPost_ret (results_none rfl _ _ _) rfl ⟨rfl,t,?_⟩;rw[HR.o];have e:p.send false n=p:=by unfold Pr.send;exact if_pos ((.inr hlt))
   rw[e];exact HPA.alloc _
  have HGO:=hid (show ¬((p.sd false).closed=true\/((p.sd false).all.length:Int)<=(p.sd false).sent)from by(rintro (hh | hh);exact absurd (hcl.symm.trans hh) (by decide);exact hlt hh));go_wp2_with fail;clear y0 y1 y2 y3 y4 y5;change Code.wp _ _ _ _ (w.alloc (.cells (sdL t.fa ({ p.a with closed:=false }:Sd)).toArray 36));have HS:=hid (Ps.new (PrSt.start HPA.o) t.fa ({ p.a with closed:=false }:Sd));generalize hF:w.heap.size=F at HS|-;generalize w.alloc (.cells (sdL t.fa ({ p.a with closed:=false }:Sd)).toArray 36)=w1 at HS|-;have HCL:=hid hcl;clear hcl;obtain⟨m,hm⟩:∃m:Int,m=min (p.a.sent+n) p.a.all.length:=⟨_,rfl⟩;have hm0:p.a.sent<=m:=by omega
  have hm1:m<=p.a.all.length:=by omega
  have hm2:0<=m:=by omega
  have HMM:=hid hm;have HBY:=hid (show Pr.bytes (p.sd false) n=(p.a.all.take m.toNat).drop p.a.sent.toNat from by rw[hm];rfl);clear hm;refine wpB (fun W:World=>W.cell? ⟨F,0,none⟩=some (.pointer (some ⟨t.fa.C,0,none⟩))/\W.cell? ⟨F,1,none⟩=some (.string ⟨p.a.all.toArray⟩)/\W.cell? ⟨F,2,none⟩=some (.int .i64 p.a.sent)/\W.cell? ⟨t.B,13,none⟩=some (.int .i64 p.now)) (⟨HS.row.cell 0 _ rfl,HS.row.cell 1 _ rfl,HS.row.cell 2 _ rfl,HS.st.cell 13 (.int .i64 p.now) rfl⟩) fun hZ=>?_;replace HS:=hid (HS.bel (Below.refl _ _).drew);generalize w1.drew=w3 at HS hZ|-;refine wpT4 0 1 2 3 ?_;refine wpT4 4 5 6 7 ?_;refine wpT4 8 9 10 11 ?_;refine wpT 12 ?_;refine wpT 13 (v:=.int .i64 (p.a.sent+n)) ?_ (hy:=by intro w hSw;(obtain⟨z0,z1,z2,z3⟩:=hSw);go_simp;(rw[IntWalk.i64_in (p.a.sent+n) (by omega)]));refine wpT2 14 15 ?_;refine wpT 16 ?_;refine wpT 17 (v:=.int .i64 m) ?_ (hy:=by intro w hSw;(obtain⟨z0,z1,z2,z3⟩:=hSw);go_simp;(rw[HMM.o]));refine wpT 18 (v:=.string ⟨(Pr.bytes (p.sd false) n).toArray⟩) ?_ (hy:=by intro w hSw;(obtain⟨z0,z1,z2,z3⟩:=hSw);go_simp;(rw[HBY.o,<-ext_bs']));refine wpR 19 fun Kq hKq=> ?_;go_simp;refine(tsend_any t.fa p.a.c p.now (Pr.bytes (p.sd false) n) _ HS.st.pa.a HOK.o HN64.o (by have h1:=Pr.bytes_len HSK.o n;have h2:=HSK.last;have h3:(p.sd false).all.length<=1000:=HSK.len;have h4:=HSK.s0;have h5:=HSK.sl;show(p.sd false).c.last+_<=_;omega)).mono ?_;rintro e w4⟨v,rfl,hl,hc,hch⟩;have k4:=HS.st.pa.onC false t.fa.G _ hc hch (.inl rfl);replace HS:=hid (HS.step k4);have HOL:=hid hl;clear hl hc hch k4;dsimp only[sendVals];go_simp;refine hKq.out _ _ (⟨HS.row.cell 0 _ rfl,HS.row.cell 1 _ rfl,HS.row.cell 2 _ rfl,HS.st.cell 13 (.int .i64 p.now) rfl⟩) ?_;clear hKq Kq hZ;refine fun hZ=>wpA ?_;refine wpT4 20 21 22 23 ?_;refine wpT2 24 25 ?_;refine wpT 26 ?_;refine wpD ?_ _;clear hZ;by_cases he:p.a.c.refusal=0
  ·have HE:=hid (show p.a.c.refusal=0 from he);have HSE:=hid (show p.send false n=(p.setSd false { p.a with c:=(p.a.c.send p.now (Pr.bytes (p.sd false) n)).1,sent:=p.a.sent+p.a.c.sendN (Pr.bytes (p.sd false) n) }).put false (p.a.c.send p.now (Pr.bytes (p.sd false) n)).2 from by unfold Pr.send;dsimp only;rw[if_neg HGO.o,if_neg (show ¬(p.sd false).c.refusal≠0 from fun hh=>hh HE.o)];rfl);have HSN:=hid (show p.a.c.sentN (Pr.bytes (p.sd false) n)=p.a.c.sendN (Pr.bytes (p.sd false) n)from if_pos HE.o);have hsn:0<=p.a.c.sendN (Pr.bytes (p.sd false) n)/\p.a.c.sendN (Pr.bytes (p.sd false) n)<=1000:=by have h1:=Pr.bytes_len HSK.o n;have h3:(p.sd false).all.length<=1000:=HSK.len;have h4:=HSK.s0;unfold Cn.sendN Cn.space;split <;> omega
   go_wp2_with fail;rw[HSN.o];obtain⟨kk,hkk⟩:∃kk,kk=p.a.c.sendN (Pr.bytes (p.sd false) n):=⟨_,rfl⟩;have HKK:=hid hkk;rw[<-hkk]at hsn|-;clear hkk;refine wpB (fun W:World=>W.cell? ⟨F,2,none⟩=some (.int .i64 p.a.sent)) (HS.row.cell 2 _ rfl) fun hZ=>?_;replace HS:=hid (HS.bel (Below.refl _ _).drew);have HOL5:=hid (HOL.below (Below.refl w4.heap.size w4).drew);generalize w4.drew=w5 at HS hZ HOL5|-;have c3:w5.cell? ⟨t.B,2,none⟩=some (.int .i64 p.a.sent):=HS.st.cell 2 _ rfl;have f3:=HS.st.free 2;have HT:=hid (HS.set 2 (.int .i64 (p.a.sent+kk)) (p.setSd false { p.a with c:=(p.a.c.send p.now (Pr.bytes (p.sd false) n)).1,sent:=p.a.sent+p.a.c.sendN (Pr.bytes (p.sd false) n) }) (by rw[HKK.o];rfl) rfl rfl rfl rfl rfl);refine wpT4 0 1 2 3 ?_;refine wpT 4 ?_;refine wpT 5 (v:=.int .i64 (p.a.sent+kk)) ?_ (hy:=by intro w hSw;(try dsimp only at hSw);go_simp;(rw[IntWalk.i64_in (p.a.sent+kk) (by omega)]));refine wpT4 6 7 8 9 ?_;refine wpR 10 fun Kq hKq=> ?_;go_simp;refine hKq.out _ _ (HT.row.cell 2 _ rfl) ?_;clear hKq Kq hZ;refine fun hZ=>wpA ?_;refine wpD ?_ _;clear hZ c3 f3;generalize hw6:w5.setCell ⟨t.B,2,none⟩ (.int .i64 (p.a.sent+kk))=w6 at HT|-;have HOL6:=hid (show OwnS w6 _ v _ from by rw[<-hw6];exact HOL5.prFr HS.st.pa (by rw[<-HS.st.eB];exact(HS.st.pa.set 2 (.int .i64 (p.a.sent+kk)) (p.setSd false { p.a with c:=(p.a.c.send p.now (Pr.bytes (p.sd false) n)).1,sent:=p.a.sent+p.a.c.sendN (Pr.bytes (p.sd false) n) }) (by rw[HKK.o];rfl) rfl rfl rfl rfl rfl).fr));clear hw6;have HBD:=hid (put_bd2 (X:=p.setSd false { p.a with c:=(p.a.c.send p.now (Pr.bytes (p.sd false) n)).1,sent:=p.a.sent+p.a.c.sendN (Pr.bytes (p.sd false) n) }) (i:=false) (l:=(p.a.c.send p.now (Pr.bytes (p.sd false) n)).2) (by rw[<-HSE.o];exact HKF.o) (by have:=HWL.o;show p.wire.length<=400000000;omega) (HML.setSd false _) (by omega));have HPUT:=tput_any N _ _ false _ v _ _ HT.st.pa HOL6.o HBD.1 HBD.2.1 HBD.2.2 HNOW.o;rw[HT.st.eB,show bI false=0 from rfl]at HPUT;go_wp2_with fail;refine HPUT.mono ?_;rintro e w9⟨rfl,t9,k9⟩;go_wp2_with fail
   go_end0
   exact⟨rfl,t9,by rw[HR.o,HSE.o];exact HT.st.trans k9⟩
  have HNE:=hid (show ¬p.a.c.refusal=0 from he);go_wp2_with fail
  go_end0
  have e1:(p.a.c.send p.now (Pr.bytes (p.sd false) n)).1=p.a.c:=by unfold Cn.send;rw[if_pos HNE.o]
  have e2:p.send false n=p:=by unfold Pr.send;dsimp only;rw[if_neg HGO.o,if_pos (show(p.sd false).c.refusal≠0 from HNE.o)]
  refine⟨rfl,?_⟩;rw[HR.o,e2];have:=HS.st;rw[setC_same p false (show(p.a.c.send p.now (Pr.bytes (p.sd false) n)).1=(p.sd false).c from e1)]at this;exact⟨_,this⟩
 have y0:w.cell? ⟨t.B,6,none⟩=some (.pointer (some ⟨t.fb.C,0,none⟩)):=h.cell 6 _ rfl;have y1:w.cell? ⟨t.B,7,none⟩=some (.string ⟨p.b.all.toArray⟩):=h.cell 7 _ rfl;have y2:w.cell? ⟨t.B,8,none⟩=some (.int .i64 p.b.sent):=h.cell 8 _ rfl;have y3:w.cell? ⟨t.B,9,none⟩=some (.string ⟨p.b.got.toArray⟩):=h.cell 9 _ rfl;have y4:w.cell? ⟨t.B,10,none⟩=some (.bool p.b.fin):=h.cell 10 _ rfl;have y5:w.cell? ⟨t.B,11,none⟩=some (.bool p.b.closed):=h.cell 11 _ rfl;have HN64:=hid hk.in64;have HKF:=hid (Pr.send_fit hk true n);have HSK:=hid (hk.sd true);have HOK:=hid hk.b.c;have HML:=hid hm;have HWL:=hid hk.wlen;have HNOW:=hid hk.now;have HPA:=hid h;obtain⟨hn0,hn1⟩:=hn;have hs0:0<=p.b.sent:=hk.b.s0;have hs1:p.b.sent<=p.b.all.length:=hk.b.sl;have hs2:p.b.all.length<=1000:=hk.b.len;show Calls _ _ #[.pointer (some ⟨t.B,0,none⟩),.int .i64 1,.int .i64 n] _ _;clear h hk hm;have hz:(⟨p.b.all.toArray⟩:ByteArray).size=p.b.all.length:=by simp[ByteArray.size]
 obtain⟨R,hR⟩:∃R,R=p.send true n:=⟨_,rfl⟩;rw[<-hR];have HR:=hid hR;clear hR
 go_enter Tryz.func44,Tryz.ntmps44
 by_cases hcl:p.b.closed=true
 ·go_wp2_with fail;refine bodyPost_ret (results_none rfl _ _ _) rfl ⟨rfl,t,?_⟩;rw[HR.o];have e:p.send true n=p:=by unfold Pr.send;exact if_pos ((.inl hcl))
  rw[e];exact HPA.alloc _
 replace hcl:p.b.closed=false:=by simpa using hcl
 by_cases hlt:(p.b.all.length:Int)<=p.b.sent
 ·go_wp2_with fail;refine bodyPost_ret (results_none rfl _ _ _) rfl ⟨rfl,t,?_⟩;rw[HR.o];have e:p.send true n=p:=by unfold Pr.send;exact if_pos ((.inr hlt))
  rw[e];exact HPA.alloc _
 have HGO:=hid (show ¬((p.sd true).closed=true\/((p.sd true).all.length:Int)<=(p.sd true).sent)from by(rintro (hh | hh);exact absurd (hcl.symm.trans hh) (by decide);exact hlt hh));go_wp2_with fail;clear y0 y1 y2 y3 y4 y5;change Code.wp _ _ _ _ (w.alloc (.cells (sdL t.fb ({ p.b with closed:=false }:Sd)).toArray 36));have HS:=hid (Ps.new (PrSt.start HPA.o) t.fb ({ p.b with closed:=false }:Sd));generalize hF:w.heap.size=F at HS|-;generalize w.alloc (.cells (sdL t.fb ({ p.b with closed:=false }:Sd)).toArray 36)=w1 at HS|-;have HCL:=hid hcl;clear hcl;obtain⟨m,hm⟩:∃m:Int,m=min (p.b.sent+n) p.b.all.length:=⟨_,rfl⟩;have hm0:p.b.sent<=m:=by omega
 have hm1:m<=p.b.all.length:=by omega
 have hm2:0<=m:=by omega
 have HMM:=hid hm;have HBY:=hid (show Pr.bytes (p.sd true) n=(p.b.all.take m.toNat).drop p.b.sent.toNat from by rw[hm];rfl);clear hm;refine wpB (fun W:World=>W.cell? ⟨F,0,none⟩=some (.pointer (some ⟨t.fb.C,0,none⟩))/\W.cell? ⟨F,1,none⟩=some (.string ⟨p.b.all.toArray⟩)/\W.cell? ⟨F,2,none⟩=some (.int .i64 p.b.sent)/\W.cell? ⟨t.B,13,none⟩=some (.int .i64 p.now)) (⟨HS.row.cell 0 _ rfl,HS.row.cell 1 _ rfl,HS.row.cell 2 _ rfl,HS.st.cell 13 (.int .i64 p.now) rfl⟩) fun hZ=>?_;replace HS:=hid (HS.bel (Below.refl _ _).drew);generalize w1.drew=w3 at HS hZ|-;refine wpT4 0 1 2 3 ?_;refine wpT4 4 5 6 7 ?_;refine wpT4 8 9 10 11 ?_;refine wpT 12 ?_;refine wpT 13 (v:=.int .i64 (p.b.sent+n)) ?_ (hy:=by intro w hSw;(obtain⟨z0,z1,z2,z3⟩:=hSw);go_simp;(rw[IntWalk.i64_in (p.b.sent+n) (by omega)]));refine wpT2 14 15 ?_;refine wpT 16 ?_;refine wpT 17 (v:=.int .i64 m) ?_ (hy:=by intro w hSw;(obtain⟨z0,z1,z2,z3⟩:=hSw);go_simp;(rw[HMM.o]));refine wpT 18 (v:=.string ⟨(Pr.bytes (p.sd true) n).toArray⟩) ?_ (hy:=by intro w hSw;(obtain⟨z0,z1,z2,z3⟩:=hSw);go_simp;(rw[HBY.o,<-ext_bs']));refine wpR 19 fun Kq hKq=> ?_;go_simp;refine(tsend_any t.fb p.b.c p.now (Pr.bytes (p.sd true) n) _ HS.st.pa.b HOK.o HN64.o (by have h1:=Pr.bytes_len HSK.o n;have h2:=HSK.last;have h3:(p.sd true).all.length<=1000:=HSK.len;have h4:=HSK.s0;have h5:=HSK.sl;show(p.sd true).c.last+_<=_;omega)).mono ?_;rintro e w4⟨v,rfl,hl,hc,hch⟩;have k4:=HS.st.pa.onC true t.fb.G _ hc hch (.inl rfl);replace HS:=hid (HS.step k4);have HOL:=hid hl;clear hl hc hch k4;dsimp only[sendVals];go_simp;refine hKq.out _ _ (⟨HS.row.cell 0 _ rfl,HS.row.cell 1 _ rfl,HS.row.cell 2 _ rfl,HS.st.cell 13 (.int .i64 p.now) rfl⟩) ?_;clear hKq Kq hZ;refine fun hZ=>wpA ?_;refine wpT4 20 21 22 23 ?_;refine wpT2 24 25 ?_;refine wpT 26 ?_;refine wpD ?_ _;clear hZ;by_cases he:p.b.c.refusal=0
 ·have HE:=hid (show p.b.c.refusal=0 from he);have HSE:=hid (show p.send true n=(p.setSd true { p.b with c:=(p.b.c.send p.now (Pr.bytes (p.sd true) n)).1,sent:=p.b.sent+p.b.c.sendN (Pr.bytes (p.sd true) n) }).put true (p.b.c.send p.now (Pr.bytes (p.sd true) n)).2 from by unfold Pr.send;dsimp only;rw[if_neg HGO.o,if_neg (show ¬(p.sd true).c.refusal≠0 from fun hh=>hh HE.o)];rfl);have HSN:=hid (show p.b.c.sentN (Pr.bytes (p.sd true) n)=p.b.c.sendN (Pr.bytes (p.sd true) n)from if_pos HE.o);have hsn:0<=p.b.c.sendN (Pr.bytes (p.sd true) n)/\p.b.c.sendN (Pr.bytes (p.sd true) n)<=1000:=by have h1:=Pr.bytes_len HSK.o n;have h3:(p.sd true).all.length<=1000:=HSK.len;have h4:=HSK.s0;unfold Cn.sendN Cn.space;split <;> omega
  go_wp2_with fail;rw[HSN.o];obtain⟨kk,hkk⟩:∃kk,kk=p.b.c.sendN (Pr.bytes (p.sd true) n):=⟨_,rfl⟩;have HKK:=hid hkk;rw[<-hkk]at hsn|-;clear hkk;refine wpB (fun W:World=>W.cell? ⟨F,2,none⟩=some (.int .i64 p.b.sent)) (HS.row.cell 2 _ rfl) fun hZ=>?_;replace HS:=hid (HS.bel (Below.refl _ _).drew);have HOL5:=hid (HOL.below (Below.refl w4.heap.size w4).drew);generalize w4.drew=w5 at HS hZ HOL5|-;have c3:w5.cell? ⟨t.B,8,none⟩=some (.int .i64 p.b.sent):=HS.st.cell 8 _ rfl;have f3:=HS.st.free 8;have HT:=hid (HS.set 8 (.int .i64 (p.b.sent+kk)) (p.setSd true { p.b with c:=(p.b.c.send p.now (Pr.bytes (p.sd true) n)).1,sent:=p.b.sent+p.b.c.sendN (Pr.bytes (p.sd true) n) }) (by rw[HKK.o];rfl) rfl rfl rfl rfl rfl);refine wpT4 0 1 2 3 ?_;refine wpT 4 ?_;refine wpT 5 (v:=.int .i64 (p.b.sent+kk)) ?_ (hy:=by intro w hSw;(try dsimp only at hSw);go_simp;(rw[IntWalk.i64_in (p.b.sent+kk) (by omega)]));refine wpT4 6 7 8 9 ?_;refine wpR 10 fun Kq hKq=> ?_;go_simp;refine hKq.out _ _ (HT.row.cell 2 _ rfl) ?_;clear hKq Kq hZ;refine fun hZ=>wpA ?_;refine wpD ?_ _;clear hZ c3 f3;generalize hw6:w5.setCell ⟨t.B,8,none⟩ (.int .i64 (p.b.sent+kk))=w6 at HT|-;have HOL6:=hid (show OwnS w6 _ v _ from by rw[<-hw6];exact HOL5.prFr HS.st.pa (by rw[<-HS.st.eB];exact(HS.st.pa.set 8 (.int .i64 (p.b.sent+kk)) (p.setSd true { p.b with c:=(p.b.c.send p.now (Pr.bytes (p.sd true) n)).1,sent:=p.b.sent+p.b.c.sendN (Pr.bytes (p.sd true) n) }) (by rw[HKK.o];rfl) rfl rfl rfl rfl rfl).fr));clear hw6;have HBD:=hid (put_bd2 (X:=p.setSd true { p.b with c:=(p.b.c.send p.now (Pr.bytes (p.sd true) n)).1,sent:=p.b.sent+p.b.c.sendN (Pr.bytes (p.sd true) n) }) (i:=true) (l:=(p.b.c.send p.now (Pr.bytes (p.sd true) n)).2) (by rw[<-HSE.o];exact HKF.o) (by have:=HWL.o;show p.wire.length<=400000000;omega) (HML.setSd true _) (by omega));have HPUT:=tput_any N _ _ true _ v _ _ HT.st.pa HOL6.o HBD.1 HBD.2.1 HBD.2.2 HNOW.o;rw[HT.st.eB,show bI true=1 from rfl]at HPUT;go_wp2_with fail;refine HPUT.mono ?_;rintro e w9⟨rfl,t9,k9⟩;go_wp2_with fail
  go_end0
  exact⟨rfl,t9,by rw[HR.o,HSE.o];exact HT.st.trans k9⟩
 have HNE:=hid (show ¬p.b.c.refusal=0 from he);go_wp2_with fail
 go_end0
 have e1:(p.b.c.send p.now (Pr.bytes (p.sd true) n)).1=p.b.c:=by unfold Cn.send;rw[if_pos HNE.o]
 have e2:p.send true n=p:=by unfold Pr.send;dsimp only;rw[if_neg HGO.o,if_pos (show(p.sd true).c.refusal≠0 from HNE.o)]
 refine⟨rfl,?_⟩;rw[HR.o,e2];have:=HS.st;rw[setC_same p true (show(p.b.c.send p.now (Pr.bytes (p.sd true) n)).1=(p.sd true).c from e1)]at this;exact⟨_,this⟩
end
section
set_option maxHeartbeats 8000000
set_option maxRecDepth 100000
open Go.RowKit Go.Shelf
theorem viol1_false {s o:Sd}(h:Pr.viol1 s o=false)(hl:o.sent<=o.all.length):(s.got.length:Int)<=o.sent/\s.got=o.all.take s.got.length/\(s.fin=true->o.closed=true/\(s.got.length:Int)=o.sent):=by
 unfold Pr.viol1 at h;rw[Bool.or_eq_false_iff,Bool.or_eq_false_iff,decide_eq_false_iff_not,decide_eq_false_iff_not]at h;obtain⟨h1,h2,h3⟩:=h;refine⟨by omega,?_,fun hf=> ?_⟩
 ·have h4:=Decidable.not_not.1 h2
  rwa [show min s.got.length o.all.length=s.got.length by omega]at h4
 rw[hf]at h3
 cases hc:o.closed with
 | false=>rw[hc]at h3;cases h3
 | true =>
  rw[hc]at h3;exact⟨rfl,by simpa using h3⟩
theorem tviol_any (N:Nat) (t:Ft) (p:Pr) (w:World) (q r:Int) (h:PrAt N t p w) (hk:Pr.Fit p q r) (h1:Pr.viol1 p.a p.b=false) (h2:Pr.viol1 p.b p.a=false) :
  Calls Tryz.prog 36 #[.pointer (some ⟨t.B,0,none⟩)] w fun e w'=>e= .returned (.int .i64 0)/\Below w.heap.size w w':=by
 have HPA:=hid h;have HA:=hid (viol1_false h1 hk.b.sl);have HB:=hid (viol1_false h2 hk.a.sl);have la1:=hk.a.sl;have la2:=hk.a.len;have lb1:=hk.b.sl;have lb2:=hk.b.len;clear h h1 h2 hk
 go_enter Tryz.func36,Tryz.ntmps36
 go_wp2_with fail
 go_loopg [3,4] 2 (fun g nv iv wr=>∃(k:Nat),nv= .int .i64 0/\iv= .int .i64 (k:Int)/\g+k=2/\Below w.heap.size w wr)
 case atStart=>exact⟨0,rfl,rfl,rfl,.refl _ _⟩
 case round =>
  obtain⟨k,rfl,rfl,hgk,hb⟩:=hrel;have HBL:=hid hb;have HS:=hid (HPA.bel hb);clear hb;have hltB:=HS.pa.lt;have hk3:k=0\/k=1\/k=2:=by omega
  rcases hk3 with hk0 | hk1 | hk2
  ·subst hk0;have y0:wr.cell? ⟨t.B,3,none⟩=some (.string ⟨p.a.got.toArray⟩):=HS.cell 3 _ rfl;have x0:wr.cell? ⟨t.B,6,none⟩=some (.pointer (some ⟨t.fb.C,0,none⟩)):=HS.cell 6 _ rfl;have x1:wr.cell? ⟨t.B,7,none⟩=some (.string ⟨p.b.all.toArray⟩):=HS.cell 7 _ rfl;have x2:wr.cell? ⟨t.B,8,none⟩=some (.int .i64 p.b.sent):=HS.cell 8 _ rfl;have x3:wr.cell? ⟨t.B,9,none⟩=some (.string ⟨p.b.got.toArray⟩):=HS.cell 9 _ rfl;have x4:wr.cell? ⟨t.B,10,none⟩=some (.bool p.b.fin):=HS.cell 10 _ rfl;have x5:wr.cell? ⟨t.B,11,none⟩=some (.bool p.b.closed):=HS.cell 11 _ rfl;obtain⟨g1,g2,g3⟩:=HA.o;have hz1:(⟨p.a.got.toArray⟩:ByteArray).size=p.a.got.length:=by simp[ByteArray.size]
   have hz2:(⟨p.b.all.toArray⟩:ByteArray).size=p.b.all.length:=by simp[ByteArray.size]
   have hgt:decide (p.b.sent<(p.a.got.length:Int))=false:=decide_eq_false (by omega);have hmin:min (p.a.got.length:Int) (p.b.all.length:Int)=(p.a.got.length:Int):=by omega
   have hgl:(p.a.got.length:Int)<=(p.b.all.length:Int):=by omega
   have hex:(⟨p.b.all.toArray⟩:ByteArray).extract 0 p.a.got.length=⟨p.a.got.toArray⟩:=by rw[ext_bs',List.drop_zero,<-g2]
   clear g2;by_cases hf:p.a.fin=true
   ·obtain⟨g4,g5⟩:=g3 hf;have z4:wr.cell? ⟨t.B,4,none⟩=some (.bool true):=(HS.cell 4 (.bool p.a.fin) rfl).trans (by rw[hf]);rw[g4]at x5;have hne:((p.a.got.length:Int) != p.b.sent)=false:=by rw[g5];simp
    clear g3 hf g4 g5;go_wp2_with fail
    go_roundg (gk-1)
    case measure=>omega
    case rel=>exact⟨1,by first | rfl | go_num,by first | rfl | go_num,by omega,below_tr HBL.o ((Below.refl wr.heap.size wr).alloc (Nat.le_refl _) _)⟩
   have z4:wr.cell? ⟨t.B,4,none⟩=some (.bool false):=(HS.cell 4 (.bool p.a.fin) rfl).trans (by simpa using hf);clear g3 hf;go_wp2_with fail
   go_roundg (gk-1)
   case measure=>omega
   case rel=>exact⟨1,by first | rfl | go_num,by first | rfl | go_num,by omega,below_tr HBL.o ((Below.refl wr.heap.size wr).alloc (Nat.le_refl _) _)⟩
  ·subst hk1;have y0:wr.cell? ⟨t.B,9,none⟩=some (.string ⟨p.b.got.toArray⟩):=HS.cell 9 _ rfl;have x0:wr.cell? ⟨t.B,0,none⟩=some (.pointer (some ⟨t.fa.C,0,none⟩)):=HS.cell 0 _ rfl;have x1:wr.cell? ⟨t.B,1,none⟩=some (.string ⟨p.a.all.toArray⟩):=HS.cell 1 _ rfl;have x2:wr.cell? ⟨t.B,2,none⟩=some (.int .i64 p.a.sent):=HS.cell 2 _ rfl;have x3:wr.cell? ⟨t.B,3,none⟩=some (.string ⟨p.a.got.toArray⟩):=HS.cell 3 _ rfl;have x4:wr.cell? ⟨t.B,4,none⟩=some (.bool p.a.fin):=HS.cell 4 _ rfl;have x5:wr.cell? ⟨t.B,5,none⟩=some (.bool p.a.closed):=HS.cell 5 _ rfl;obtain⟨g1,g2,g3⟩:=HB.o;have hz1:(⟨p.b.got.toArray⟩:ByteArray).size=p.b.got.length:=by simp[ByteArray.size]
   have hz2:(⟨p.a.all.toArray⟩:ByteArray).size=p.a.all.length:=by simp[ByteArray.size]
   have hgt:decide (p.a.sent<(p.b.got.length:Int))=false:=decide_eq_false (by omega);have hmin:min (p.b.got.length:Int) (p.a.all.length:Int)=(p.b.got.length:Int):=by omega
   have hgl:(p.b.got.length:Int)<=(p.a.all.length:Int):=by omega
   have hex:(⟨p.a.all.toArray⟩:ByteArray).extract 0 p.b.got.length=⟨p.b.got.toArray⟩:=by rw[ext_bs',List.drop_zero,<-g2]
   clear g2;by_cases hf:p.b.fin=true
   ·obtain⟨g4,g5⟩:=g3 hf;have z4:wr.cell? ⟨t.B,10,none⟩=some (.bool true):=(HS.cell 10 (.bool p.b.fin) rfl).trans (by rw[hf]);rw[g4]at x5;have hne:((p.b.got.length:Int) != p.a.sent)=false:=by rw[g5];simp
    clear g3 hf g4 g5;go_wp2_with fail
    go_roundg (gk-1)
    case measure=>omega
    case rel=>exact⟨2,by first | rfl | go_num,by first | rfl | go_num,by omega,below_tr HBL.o ((Below.refl wr.heap.size wr).alloc (Nat.le_refl _) _)⟩
   have z4:wr.cell? ⟨t.B,10,none⟩=some (.bool false):=(HS.cell 10 (.bool p.b.fin) rfl).trans (by simpa using hf);clear g3 hf;go_wp2_with fail
   go_roundg (gk-1)
   case measure=>omega
   case rel=>exact⟨2,by first | rfl | go_num,by first | rfl | go_num,by omega,below_tr HBL.o ((Below.refl wr.heap.size wr).alloc (Nat.le_refl _) _)⟩
  subst hk2;go_wp2;go_ret;exact⟨rfl,HBL.o⟩
end
section
set_option maxHeartbeats 8000000
set_option maxRecDepth 100000
open Go.RowKit Go.Shelf
structure Pz (N:Nat)(t:Ft)(w:World)(X:Nat)(o:Obj)(t1:Ft)(q:Pr)(W:World):Prop where
 st:PrSt N t w t1 q W
 row:W.heap[X]? =some o
 nd:¬t1.D X
 lo:w.heap.size<=X
namespace Pz
variable {N X : Nat} {o : Obj} {t t1 t2 : Ft} {q q' : Pr} {w W W' : World}
theorem lt (h:Pz N t w X o t1 q W):X<W.heap.size:=(Array.getElem?_eq_some_iff.1 h.row).1
theorem new (h:PrSt N t w t1 q W)(o:Obj):Pz N t w W.heap.size o t1 q (W.alloc o) :=
 ⟨h.bel ((Below.refl W.heap.size W).alloc (Nat.le_refl _) _),heap_alloc_new _ _,fun e=>Nat.lt_irrefl _ (h.pa.inD _ e).1,h.size⟩
theorem bel (h:Pz N t w X o t1 q W)(hb:Below W.heap.size W W'):Pz N t w X o t1 q W':=⟨h.st.bel hb,(hb.block X h.lt).trans h.row,h.nd,h.lo⟩
theorem step (h:Pz N t w X o t1 q W)(k:PrSt N t1 W t2 q' W'):Pz N t w X o t2 q' W' :=
 ⟨h.st.trans k,(k.fr.block X h.lt h.nd).trans h.row,fun e=>by
  rcases k.sub X e with h1 | h1
  ·exact h.nd h1
  ·exact Nat.lt_irrefl _ (Nat.lt_of_lt_of_le h.lt h1),h.lo⟩
end Pz
theorem ticks_snoc:∀(k:Nat) (p:Pr),Pr.ticks (k+1) p=(Pr.ticks k p).tick:=by
 intro k
 induction k with
 | zero=>intro p;rfl
 | succ k ih=>intro p;exact ih p.tick
def doL (x:Dv):List Value:=[.int .i64 x.side,.int .i64 x.kind,.int .i64 x.n,.int .i64 x.tick]
theorem dv_i (x:Dv):pickV x.side 2=bI x.i:=by
 have:=pickV_bd x.side 2 (by decide);unfold Dv.i bI;by_cases h:pickV x.side 2=1
 ·simp[h]
 simp[h];omega
theorem tdo_any (N:Nat) (t:Ft) (P:Pr.Par) (p:Pr) (n:Int) (x:Dv) (w:World) (h:PrAt N t p w) (hA:Pr.Al P p n) (hP:P.Ok) (h0:0<=n) (hn:n+21<=5000) (hx:In64 x.side/\In64 x.kind/\In64 x.n/\In64 x.tick) :
  Calls Tryz.prog 17 #[.pointer (some ⟨t.B,0,none⟩),.agg #[.int .i64 x.side,.int .i64 x.kind,.int .i64 x.n,.int .i64 x.tick]] w fun e w'=>e= .returned (.bool true)/\PrOut N t w (p.doD x).1 w':=by
 obtain⟨hx1,hx2,hx3,hx4⟩:=hx;have HX:=hid (And.intro hx1 (And.intro hx2 (And.intro hx3 hx4)));have HP:=hid hP;have HA:=hid hA;have HI:=hid (dv_i x);have hk8:=pickV_bd x.kind 8 (by decide);have hn200:=pickV_bd x.n 200 (by decide);have hn3:=pickV_bd x.n 3 (by decide);have ht20:=pickV_bd x.tick 20 (by decide);obtain⟨hD1,hD2⟩:=hA.doD hP x h0 hn;have HD:=hid hD1;have HO:=hid (hA.opD x);have HS0:=hid (Pz.new (PrSt.start h) (.cells (doL x).toArray 32));clear hx1 hx2 hx3 hx4 hP hA hD1 hD2 h
 go_enter Tryz.func17,Tryz.ntmps17
 go_wp2_with fail;change Calls _ _ _ (w.alloc (.cells (doL x).toArray 32)) _;generalize hX:w.heap.size=X at HS0|-;generalize w.alloc (.cells (doL x).toArray 32)=w1 at HS0|-;have HS:=HS0;clear HS0;refine(tpick_any x.side 2 _ HX.1 (by decide) (by decide)).mono ?_;rintro e wp⟨rfl,rfl⟩;rw[HI.o];have z1:w1.cell? ⟨X,1,none⟩=some (.int .i64 x.kind):=by rw[cell_of_row _ _ _ _ _ _ HS.row];rfl
 go_wp2_with fail;refine(tpick_any x.kind 8 _ HX.2.1 (by decide) (by decide)).mono ?_;rintro e wp⟨rfl,rfl⟩;clear z1;obtain⟨kd,hkd⟩:∃kd,pickV x.kind 8=kd:=⟨_,rfl⟩;rw[hkd]at hk8|-;have HKD:=hid hkd;clear hkd
 skip
 have h8:kd=0\/kd=1\/kd=2\/kd=3\/kd=4\/kd=5\/kd=6\/kd=7:=by omega
 rcases h8 with hkk | hkk | hkk | hkk | hkk | hkk | hkk | hkk
 focus
  subst hkk;have z2:w1.cell? ⟨X,2,none⟩=some (.int .i64 x.n):=by rw[cell_of_row _ _ _ _ _ _ HS.row];rfl
  go_wp2_with fail;refine(tpick_any x.n 200 _ HX.2.2.1 (by decide) (by decide)).mono ?_;rintro e wp⟨rfl,rfl⟩;clear z2;go_wp2_with fail;refine(tsendP_any N t p x.i (1+pickV x.n 200) _ _ _ HS.st.pa HA.run.1 (HA.bds (by omega)).1 (HA.bds (by omega)).2 HA.ml (by omega)).mono ?_;rintro e w3⟨rfl,t3,k3⟩;replace HS:=hid (HS.step k3);clear k3;have HS2:=hid (show ∃t1,Pz N t w X (.cells (doL x).toArray 32) t1 (p.opD x) w3 from⟨t3,by rw[show p.opD x=p.send x.i (1+pickV x.n 200)from by unfold Pr.opD;rw[HKD.o];exact if_pos (by decide)];exact HS.o⟩);clear HS
  go_upto_region 14 with fail
  generalize w3=wc at HS2|-
 rotate_left 1
 focus
  subst hkk;have z2:w1.cell? ⟨X,2,none⟩=some (.int .i64 x.n):=by rw[cell_of_row _ _ _ _ _ _ HS.row];rfl
  go_wp2_with fail;refine(tpick_any x.n 200 _ HX.2.2.1 (by decide) (by decide)).mono ?_;rintro e wp⟨rfl,rfl⟩;clear z2;go_wp2_with fail;refine(tsendP_any N t p x.i (1+pickV x.n 200) _ _ _ HS.st.pa HA.run.1 (HA.bds (by omega)).1 (HA.bds (by omega)).2 HA.ml (by omega)).mono ?_;rintro e w3⟨rfl,t3,k3⟩;replace HS:=hid (HS.step k3);clear k3;have HS2:=hid (show ∃t1,Pz N t w X (.cells (doL x).toArray 32) t1 (p.opD x) w3 from⟨t3,by rw[show p.opD x=p.send x.i (1+pickV x.n 200)from by unfold Pr.opD;rw[HKD.o];exact if_pos (by decide)];exact HS.o⟩);clear HS
  go_upto_region 14 with fail
  generalize w3=wc at HS2|-
 rotate_left 1
 focus
  subst hkk;have z2:w1.cell? ⟨X,2,none⟩=some (.int .i64 x.n):=by rw[cell_of_row _ _ _ _ _ _ HS.row];rfl
  go_wp2_with fail;refine(tpick_any x.n 200 _ HX.2.2.1 (by decide) (by decide)).mono ?_;rintro e wp⟨rfl,rfl⟩;clear z2;go_wp2_with fail;refine(tsendP_any N t p x.i (1+pickV x.n 200) _ _ _ HS.st.pa HA.run.1 (HA.bds (by omega)).1 (HA.bds (by omega)).2 HA.ml (by omega)).mono ?_;rintro e w3⟨rfl,t3,k3⟩;replace HS:=hid (HS.step k3);clear k3;have HS2:=hid (show ∃t1,Pz N t w X (.cells (doL x).toArray 32) t1 (p.opD x) w3 from⟨t3,by rw[show p.opD x=p.send x.i (1+pickV x.n 200)from by unfold Pr.opD;rw[HKD.o];exact if_pos (by decide)];exact HS.o⟩);clear HS
  go_upto_region 14 with fail
  generalize w3=wc at HS2|-
 rotate_left 1
 focus
  subst hkk;have z2:w1.cell? ⟨X,2,none⟩=some (.int .i64 x.n):=by rw[cell_of_row _ _ _ _ _ _ HS.row];rfl
  go_wp2_with fail;refine(tpick_any x.n 200 _ HX.2.2.1 (by decide) (by decide)).mono ?_;rintro e wp⟨rfl,rfl⟩;clear z2;go_wp2_with fail;refine(trecvP_any N t p x.i (1+pickV x.n 200) _ _ _ HS.st.pa HA.run.1 (HA.bds (by omega)).1 (HA.bds (by omega)).2 HA.ml (by omega) (Nat.le_trans (HA.got x.i) (by decide))).mono ?_;rintro e w3⟨rfl,t3,k3⟩;replace HS:=hid (HS.step k3);clear k3;have HS2:=hid (show ∃t1,Pz N t w X (.cells (doL x).toArray 32) t1 (p.opD x) w3 from⟨t3,by rw[show p.opD x=p.recv x.i (1+pickV x.n 200)from by unfold Pr.opD;rw[HKD.o];exact(if_neg (by decide)).trans (if_pos (by decide))];exact HS.o⟩);clear HS
  go_upto_region 14 with fail
  generalize w3=wc at HS2|-
 rotate_left 1
 focus
  subst hkk;have z2:w1.cell? ⟨X,2,none⟩=some (.int .i64 x.n):=by rw[cell_of_row _ _ _ _ _ _ HS.row];rfl
  go_wp2_with fail;refine(tpick_any x.n 200 _ HX.2.2.1 (by decide) (by decide)).mono ?_;rintro e wp⟨rfl,rfl⟩;clear z2;go_wp2_with fail;refine(trecvP_any N t p x.i (1+pickV x.n 200) _ _ _ HS.st.pa HA.run.1 (HA.bds (by omega)).1 (HA.bds (by omega)).2 HA.ml (by omega) (Nat.le_trans (HA.got x.i) (by decide))).mono ?_;rintro e w3⟨rfl,t3,k3⟩;replace HS:=hid (HS.step k3);clear k3;have HS2:=hid (show ∃t1,Pz N t w X (.cells (doL x).toArray 32) t1 (p.opD x) w3 from⟨t3,by rw[show p.opD x=p.recv x.i (1+pickV x.n 200)from by unfold Pr.opD;rw[HKD.o];exact(if_neg (by decide)).trans (if_pos (by decide))];exact HS.o⟩);clear HS
  go_upto_region 14 with fail
  generalize w3=wc at HS2|-
 rotate_left 1
 focus
  subst hkk;have z2:w1.cell? ⟨X,2,none⟩=some (.int .i64 x.n):=by rw[cell_of_row _ _ _ _ _ _ HS.row];rfl
  go_wp2_with fail;refine(tpick_any x.n 200 _ HX.2.2.1 (by decide) (by decide)).mono ?_;rintro e wp⟨rfl,rfl⟩;clear z2;go_wp2_with fail;refine(trecvP_any N t p x.i (1+pickV x.n 200) _ _ _ HS.st.pa HA.run.1 (HA.bds (by omega)).1 (HA.bds (by omega)).2 HA.ml (by omega) (Nat.le_trans (HA.got x.i) (by decide))).mono ?_;rintro e w3⟨rfl,t3,k3⟩;replace HS:=hid (HS.step k3);clear k3;have HS2:=hid (show ∃t1,Pz N t w X (.cells (doL x).toArray 32) t1 (p.opD x) w3 from⟨t3,by rw[show p.opD x=p.recv x.i (1+pickV x.n 200)from by unfold Pr.opD;rw[HKD.o];exact(if_neg (by decide)).trans (if_pos (by decide))];exact HS.o⟩);clear HS
  go_upto_region 14 with fail
  generalize w3=wc at HS2|-
 rotate_left 1
 focus
  subst hkk;have z2:w1.cell? ⟨X,2,none⟩=some (.int .i64 x.n):=by rw[cell_of_row _ _ _ _ _ _ HS.row];rfl
  go_wp2_with fail;refine(tpick_any x.n 3 _ HX.2.2.1 (by decide) (by decide)).mono ?_;rintro e wp⟨rfl,rfl⟩;clear z2;by_cases h3:pickV x.n 3=0
  focus
   have HZ:=hid h3;have hb3:(pickV x.n 3==0)=true:=beq_iff_eq.2 h3;clear h3;go_wp2_with fail;refine(tshutP_any N t p x.i _ _ _ HS.st.pa HA.run.1 (HA.bds (by omega)).1 (HA.bds (by omega)).2 HA.ml).mono ?_;rintro e w3⟨rfl,t3,k3⟩;replace HS:=hid (HS.step k3);clear k3;have HS2:=hid (show ∃t1,Pz N t w X (.cells (doL x).toArray 32) t1 (p.opD x) w3 from⟨t3,by rw[show p.opD x=p.shut x.i from by unfold Pr.opD;rw[HKD.o];exact(if_neg (by decide)).trans ((if_neg (by decide)).trans (if_pos ⟨rfl,HZ.o⟩))];exact HS.o⟩);clear HS
   go_upto_region 14 with fail
   generalize w3=wc at HS2|-
  rotate_left 1
  focus
   have HZ:=hid h3;have hb3:(pickV x.n 3==0)=false:=beq_eq_false_iff_ne.2 h3;clear h3;have HS2:=hid (show ∃t1,Pz N t w X (.cells (doL x).toArray 32) t1 (p.opD x) w1 from⟨t,by rw[show p.opD x=p from by unfold Pr.opD;rw[HKD.o];exact(if_neg (by decide)).trans ((if_neg (by decide)).trans (if_neg (fun hh=>HZ.o hh.2)))];exact HS.o⟩);clear HS
   go_upto_region 14 with fail
   generalize w1=wc at HS2|-
  rotate_left 1
 rotate_left 2
 focus
  subst hkk;have HS2:=hid (show ∃t1,Pz N t w X (.cells (doL x).toArray 32) t1 (p.opD x) w1 from⟨t,by rw[show p.opD x=p from by unfold Pr.opD;rw[HKD.o];exact(if_neg (by decide)).trans ((if_neg (by decide)).trans (if_neg (fun hh=>absurd hh.1 (by decide))))];exact HS.o⟩);clear HS
  go_upto_region 14 with fail
  generalize w1=wc at HS2|-
 rotate_left 1
 all_goals
  obtain⟨t1,hz⟩:=HS2.o;have HS:=hid hz;clear hz HS2 HKD hk8;obtain⟨K,hK⟩:∃K:Nat,(K:Int)=pickV x.tick 20:=⟨(pickV x.tick 20).toNat,by omega⟩;have HKT:=hid hK;have hKl:K<20:=by omega
  have HDE:=hid (show(p.doD x).1=Pr.ticks K (p.opD x)from by rw[HD.o,show(pickV x.tick 20).toNat=K by omega]);obtain⟨p1,hp1⟩:∃p1,p1=p.opD x:=⟨_,rfl⟩;rw[<-hp1]at HS HO HDE;clear hp1 HD HA;go_wp2_with fail
  go_loopg [6] K (fun g iv wr=>∃(k:Nat) (t2:Ft),iv= .int .i64 (k:Int)/\g+k=K/\Pz N t w X (.cells (doL x).toArray 32) t2 (Pr.ticks k p1) wr)
  case atStart=>exact⟨0,t1,rfl,by omega,HS.o⟩
  case round =>
   obtain⟨k,t2,rfl,hgk,hst⟩:=hrel;clear HS;have HS:=hid hst;clear hst;have z3:wr.cell? ⟨X,3,none⟩=some (.int .i64 x.tick):=by rw[cell_of_row _ _ _ _ _ _ HS.row];rfl
   have HAK:=hid ((Pr.Al.ticksV HP.o k HO.o (by omega) (by omega)).2);go_wp2_with fail;refine(tpick_any x.tick 20 _ HX.2.2.2 (by decide) (by decide)).mono ?_;rintro e wp⟨rfl,rfl⟩;rw[<-HKT.o];clear z3;by_cases hk:k<K
   ·have hki:(k:Int)<(K:Int):=by omega
    have HNX:=hid (ticks_snoc k p1);have HA1:=hid (HAK.tick (by omega) (by omega) HP.o);have HBD:=hid (HAK.bds (by omega));generalize Pr.ticks k p1=pk at HS HAK HNX HA1 HBD;go_wp2_with fail;have HTK:=ttickP_any N t2 pk wr _ _ HS.st.pa HAK.run.1 HBD.1 HBD.2 HAK.ml (by have:=HAK.run.2;omega);rw[HS.st.eB]at HTK;refine HTK.mono ?_;rintro e w3⟨rfl,t3,k3⟩;replace HS:=hid (HS.step k3);clear k3;go_wp2_with fail;have HVI:=tviol_any N t3 pk.tick w3 _ _ HS.st.pa HA1.run.1 HA1.v.1 HA1.v.2.1;rw[HS.st.eB]at HVI;refine HVI.mono ?_;rintro e w4⟨rfl,hb4⟩;replace HS:=hid (HS.bel hb4);clear hb4;go_wp2_with fail
    go_roundg (gk-1)
    case measure=>omega
    case rel=>exact⟨k+1,t3,by first | rfl | go_num | (have e:wrap64 ((k:Int)+1)=((k+1:Nat):Int):=(by unfold wrap64;omega);rw[e]),by omega,by rw[HNX.o];exact HS.o⟩
   ·have hge:k=K:=by omega
    subst hge;go_wp2_with fail;have HVI:=tviol_any N t2 (Pr.ticks k p1) wr _ _ HS.st.pa HAK.run.1 HAK.v.1 HAK.v.2.1;rw[HS.st.eB]at HVI;refine HVI.mono ?_;rintro e w4⟨rfl,hb4⟩;replace HS:=hid (HS.bel hb4);clear hb4;go_wp2;go_ret;exact⟨rfl,t2,by rw[HDE.o];exact HS.st⟩
end
end Go.Proofs.YtclkcmidhhfdmaaGreatDoor
