import Derived.Test.YtclkcmidhhfdmaaGreatDoorUb34
import Derived.Test.YtclkcmidhhfdmaaGreatDoorUb35
import Derived.Laws.ResultCell
namespace Go.Proofs.YtclkcmidhhfdmaaGreatDoor
open Lib (hid)
section
set_option maxHeartbeats 8000000
set_option maxRecDepth 100000
open Go.RowKit Go.Shelf
theorem lq {b:Bx}(ok:b.Ok)(n:Int):(b.takeS n).length<=8192:=by
 have h1:=ok.most;have h2:=ok.one;have h3:=ok.rdnx;have h4:=ok.nxend;unfold Bx.takeS;split
 ·exact Nat.zero_le _
 rw[lE _ _ _ h2 (by omega)];omega
theorem eK (N:Nat) (t:Ft) (p:Pr) (i:Bool) (n:Int) (w:World) (q r:Int) (h:PrAt N t p w) (hk:Pr.Fit p q r) (hq:q<=90000000) (hr:r<=90000000000) (hm:p.Ml) (hn:0<=n/\n<=1000000) (hg:(p.sd i).got.length<=1000000) :
  Calls Tryz.prog 40 #[t.B,(bI i),n] w (jI N t w (p.recv i n)):=by
 cases i
 ·have y0:w.cell? t.B=some (t.fa.C:Y):=h.cell 0 _ rfl;have y1:w.cell? ⟨t.B,1,none⟩=some (.string ⟨p.a.all.toArray⟩):=h.cell 1 _ rfl;have y2:w.cell? ⟨t.B,2,none⟩=some (p.a.sent:Y):=h.cell 2 _ rfl;have y3:w.cell? ⟨t.B,3,none⟩=some (.string ⟨p.a.got.toArray⟩):=h.cell 3 _ rfl;have y4:w.cell? ⟨t.B,4,none⟩=some (p.a.fin:Y):=h.cell 4 _ rfl;have y5:w.cell? ⟨t.B,5,none⟩=some (p.a.closed:Y):=h.cell 5 _ rfl;have ac:=hid hk.in64;have b2:=hid (Pr.recv_fit hk false n);have b3:=hid hk.a.c;have b4:=hid hm;have b5:=hid hk.wlen;have ad:=hid hk.now;have ab:=hid h;have cF:=hid (show p.a.got.length<=1000000 from hg);obtain⟨hn0,cL⟩:=hn;show Calls _ _ #[t.B,(0:Int),n] _ _;clear h hk hm hg;obtain⟨R,hR⟩:∃R,R=p.recv false n:=⟨_,rfl⟩;rw[<-hR];have HR:=hid hR;clear hR;have cM:=hid (show p.a.c.recvT n=(p.a.c.bx.takeS n)from if_neg (by omega))
  go_enter Tryz.func40,Tryz.ntmps40
  go_wp2_with fail;clear y0 y1 y2 y3 y4 y5;change Code.wp _ _ _ _ (w.alloc (.cells (pU t.fa p.a).toArray 36));have HS:=hid (Ps.new (PrSt.start ab.o) t.fa p.a);generalize hF:w.heap.size=F at HS|-;generalize w.alloc (.cells (pU t.fa p.a).toArray 36)=w1 at HS|-;have y0:=HS.row.cell 0 _ rfl;go_wp2_with fail;clear y0;refine bC (fun W:World=>W.cell? F=some (t.fa.C:Y)/\W.cell? ⟨t.B,13,none⟩=some (p.now:Y)) (⟨HS.row.cell 0 _ rfl,HS.st.cell 13 p.now rfl⟩) fun hZ=>?_;replace HS:=hid (HS.bel (Below.refl _ _).drew);generalize w1.drew=w3 at HS hZ|-;refine aB 0 1 2 3 ?_;refine aK 4 5 ?_;refine aO 6 ?_;refine aX 7 fun Kq hKq=> ?_;go_simp;refine(ln t.fa p.a.c p.now n _ HS.st.pa.a b3.o ac.o).mono ?_;rintro e w4⟨v,rfl,hl,hc,hch⟩;have k4:=HS.st.pa.onC false t.fa.G _ hc hch (.inl rfl);replace HS:=hid (HS.step k4);have b8:=hid hl;clear hl hc hch k4;dsimp only[km];rw[cM.o];go_simp;refine hKq.out _ _ (⟨HS.row.cell 0 _ rfl,HS.st.cell 13 p.now rfl⟩) ?_;clear hKq Kq hZ;refine fun hZ=>aT ?_;refine aB 8 9 10 11 ?_;refine aB 12 13 14 15 ?_;refine aO 16 ?_;refine az ?_ _;clear hZ;by_cases he:p.a.c.recvErr n=0
  ·have HE:=hid (show p.a.c.recvErr n=0 from he);have cS:=hid (show p.a.c.recvF n=p.a.c.recvE n from(if_neg (by omega)).trans (if_pos HE.o));have ag:=hid (show p.recv false n=(p.setSd false { p.a with c:=(p.a.c.recv p.now n).1,got:=p.a.got++(p.a.c.bx.takeS n),fin:=p.a.fin||p.a.c.recvE n }).put false (p.a.c.recv p.now n).2 from by unfold Pr.recv;dsimp only;rw[if_neg (show ¬(p.sd false).c.recvErr n≠0 from fun hh=>hh HE.o)];rfl);go_wp2_with fail;rw[cS.o];have cT:=hid (lq b3.bx n);have hadd:∀W:World,(Op.stringOp .add (⟨p.a.got.toArray⟩:ByteArray) (⟨(p.a.c.bx.takeS n).toArray⟩:ByteArray)).run Tryz.prog W= .ok (.string ⟨(p.a.got++(p.a.c.bx.takeS n)).toArray⟩) W:=fun W=>run_string_add_sum W _ _ (by have h1:=cF.o;have h2:=cT.o;simp[ByteArray.size];omega);refine bC (fun W:World=>W.cell? ⟨F,3,none⟩=some (.string ⟨p.a.got.toArray⟩)) (HS.row.cell 3 _ rfl) fun hZ=>?_;replace HS:=hid (HS.bel (Below.refl _ _).drew);have a0:=hid (b8.below (Below.refl w4.heap.size w4).drew);generalize w4.drew=w5 at HS hZ a0|-;have c3:w5.cell? ⟨t.B,3,none⟩=some (.string ⟨p.a.got.toArray⟩):=HS.st.cell 3 _ rfl;have f3:=HS.st.free 3;have HT:=hid (HS.set 3 (.string ⟨(p.a.got++(p.a.c.bx.takeS n)).toArray⟩) (p.setSd false { p.a with c:=(p.a.c.recv p.now n).1,got:=p.a.got++(p.a.c.bx.takeS n) }) rfl rfl rfl rfl rfl rfl);refine aB 0 1 2 3 ?_;refine aB 4 5 6 7 ?_;refine aK 8 9 ?_;refine aX 10 fun Kq hKq=> ?_;go_simp;refine hKq.out _ _ (HT.row.cell 3 _ rfl) ?_;clear hKq Kq hZ;refine fun hZ=>aT ?_;refine az ?_ _;clear hZ c3 f3 hadd;generalize ak:w5.setCell ⟨t.B,3,none⟩ (.string ⟨(p.a.got++(p.a.c.bx.takeS n)).toArray⟩)=w6 at HT|-;have a6:=hid (show aJ w6 _ v _ from by rw[<-ak];exact a0.prFr HS.st.pa (by rw[<-HS.st.eB];exact(HS.st.pa.set 3 (.string ⟨(p.a.got++(p.a.c.bx.takeS n)).toArray⟩) (p.setSd false { p.a with c:=(p.a.c.recv p.now n).1,got:=p.a.got++(p.a.c.bx.takeS n) }) rfl rfl rfl rfl rfl rfl).fr));clear ak HS a0;go_wp2_with fail;by_cases hfin:p.a.fin=true
   focus
    refine bC (fun W:World=>W.cell? ⟨F,4,none⟩=some (true:Y)) (HT.row.cell 4 _ (by show some (Value.bool p.a.fin)=_;rw[hfin])) fun hZ=>?_;replace HT:=hid (HT.bel (Below.refl _ _).drew);have a3:=hid (a6.below (Below.refl w6.heap.size w6).drew);generalize w6.drew=w7 at HT a3 hZ|-;have c4:w7.cell? ⟨t.B,4,none⟩=some (true:Y):=(HT.st.cell 4 p.a.fin rfl).trans (by rw[hfin]);have f4:=HT.st.free 4;have HU:=hid (HT.set 4 true (p.setSd false { p.a with c:=(p.a.c.recv p.now n).1,got:=p.a.got++(p.a.c.bx.takeS n),fin:=true }) rfl rfl rfl rfl rfl rfl);refine aB 0 1 2 3 ?_;refine aO 4 ?_;refine aV 5 ?_;refine aB 6 7 8 9 ?_;refine aO 10 ?_;refine aX 11 fun Kq hKq=> ?_;go_simp;refine hKq.out _ _ (HU.row.cell 4 _ (by show some (Value.bool p.a.fin)=_;rw[hfin])) ?_;clear hKq Kq hZ;refine fun hZ=>aT ?_;refine az ?_ _;clear hZ c4 f4;generalize al:w7.setCell ⟨t.B,4,none⟩ true=w8 at HU|-;have a7:=hid (show p.recv false n=(p.setSd false { p.a with c:=(p.a.c.recv p.now n).1,got:=p.a.got++(p.a.c.bx.takeS n),fin:=true }).put false (p.a.c.recv p.now n).2 from by rw[ag.o,hfin];rfl);have am:=hid (show aJ w8 _ v _ from by rw[<-al];exact a3.prFr HT.st.pa (by rw[<-HT.st.eB];exact(HT.st.pa.set 4 true (p.setSd false { p.a with c:=(p.a.c.recv p.now n).1,got:=p.a.got++(p.a.c.bx.takeS n),fin:=true }) rfl rfl rfl rfl rfl rfl).fr));clear al hfin;have a5:=hid (dS (X:=p.setSd false { p.a with c:=(p.a.c.recv p.now n).1,got:=p.a.got++(p.a.c.bx.takeS n),fin:=true }) (i:=false) (l:=(p.a.c.recv p.now n).2) (by rw[<-a7.o];exact b2.o) (by have:=b5.o;show p.wire.length<=400000000;omega) (b4.setSd false _) (by omega))
   rotate_left 1
   focus
    replace hfin:p.a.fin=false:=by simpa using hfin
    refine bC (fun W:World=>W.cell? ⟨F,4,none⟩=some (false:Y)) (HT.row.cell 4 _ (by show some (Value.bool p.a.fin)=_;rw[hfin])) fun hZ=>?_;replace HT:=hid (HT.bel (Below.refl _ _).drew);have a3:=hid (a6.below (Below.refl w6.heap.size w6).drew);generalize w6.drew=w7 at HT a3 hZ|-;have c4:w7.cell? ⟨t.B,4,none⟩=some (false:Y):=(HT.st.cell 4 p.a.fin rfl).trans (by rw[hfin]);have f4:=HT.st.free 4;have HU:=hid (HT.set 4 (p.a.c.recvE n) (p.setSd false { p.a with c:=(p.a.c.recv p.now n).1,got:=p.a.got++(p.a.c.bx.takeS n),fin:=(p.a.c.recvE n) }) rfl rfl rfl rfl rfl rfl);refine aB 0 1 2 3 ?_;refine aB 4 5 6 7 ?_;refine aK 8 9 ?_;refine aO 10 ?_;refine aX 11 fun Kq hKq=> ?_;go_simp;refine hKq.out _ _ (HU.row.cell 4 _ (by show some (Value.bool p.a.fin)=_;rw[hfin])) ?_;clear hKq Kq hZ;refine fun hZ=>aT ?_;refine az ?_ _;clear hZ c4 f4;generalize al:w7.setCell ⟨t.B,4,none⟩ (p.a.c.recvE n)=w8 at HU|-;have a7:=hid (show p.recv false n=(p.setSd false { p.a with c:=(p.a.c.recv p.now n).1,got:=p.a.got++(p.a.c.bx.takeS n),fin:=(p.a.c.recvE n) }).put false (p.a.c.recv p.now n).2 from by rw[ag.o,hfin];rfl);have am:=hid (show aJ w8 _ v _ from by rw[<-al];exact a3.prFr HT.st.pa (by rw[<-HT.st.eB];exact(HT.st.pa.set 4 (p.a.c.recvE n) (p.setSd false { p.a with c:=(p.a.c.recv p.now n).1,got:=p.a.got++(p.a.c.bx.takeS n),fin:=(p.a.c.recvE n) }) rfl rfl rfl rfl rfl rfl).fr));clear al hfin;have a5:=hid (dS (X:=p.setSd false { p.a with c:=(p.a.c.recv p.now n).1,got:=p.a.got++(p.a.c.bx.takeS n),fin:=(p.a.c.recvE n) }) (i:=false) (l:=(p.a.c.recv p.now n).2) (by rw[<-a7.o];exact b2.o) (by have:=b5.o;show p.wire.length<=400000000;omega) (b4.setSd false _) (by omega))
   all_goals
    have a4:=cJ N _ _ false _ v _ _ HU.st.pa am.o a5.1 a5.2.1 a5.2.2 ad.o;rw[HU.st.eB,show bI false=0 from rfl]at a4;go_wp2_with fail;refine a4.mono ?_;rintro e w9⟨rfl,t9,k9⟩;go_wp2_with fail
    go_end0
    exact⟨rfl,t9,by rw[HR.o,a7.o];exact HU.st.trans k9⟩
  have b6:=hid (show ¬p.a.c.recvErr n=0 from he);go_wp2_with fail
  go_end0
  have e2:p.recv false n=p.setC false (p.a.c.recv p.now n).1:=by unfold Pr.recv;dsimp only;exact if_pos (show(p.sd false).c.recvErr n≠0 from b6.o)
  refine⟨rfl,?_⟩;rw[HR.o,e2];exact⟨_,HS.st⟩
 have y0:w.cell? ⟨t.B,6,none⟩=some (t.fb.C:Y):=h.cell 6 _ rfl;have y1:w.cell? ⟨t.B,7,none⟩=some (.string ⟨p.b.all.toArray⟩):=h.cell 7 _ rfl;have y2:w.cell? ⟨t.B,8,none⟩=some (p.b.sent:Y):=h.cell 8 _ rfl;have y3:w.cell? ⟨t.B,9,none⟩=some (.string ⟨p.b.got.toArray⟩):=h.cell 9 _ rfl;have y4:w.cell? ⟨t.B,10,none⟩=some (p.b.fin:Y):=h.cell 10 _ rfl;have y5:w.cell? ⟨t.B,11,none⟩=some (p.b.closed:Y):=h.cell 11 _ rfl;have ac:=hid hk.in64;have b2:=hid (Pr.recv_fit hk true n);have b3:=hid hk.b.c;have b4:=hid hm;have b5:=hid hk.wlen;have ad:=hid hk.now;have ab:=hid h;have cF:=hid (show p.b.got.length<=1000000 from hg);obtain⟨hn0,cL⟩:=hn;show Calls _ _ #[t.B,(1:Int),n] _ _;clear h hk hm hg;obtain⟨R,hR⟩:∃R,R=p.recv true n:=⟨_,rfl⟩;rw[<-hR];have HR:=hid hR;clear hR;have cM:=hid (show p.b.c.recvT n=(p.b.c.bx.takeS n)from if_neg (by omega))
 go_enter Tryz.func40,Tryz.ntmps40
 go_wp2_with fail;clear y0 y1 y2 y3 y4 y5;change Code.wp _ _ _ _ (w.alloc (.cells (pU t.fb p.b).toArray 36));have HS:=hid (Ps.new (PrSt.start ab.o) t.fb p.b);generalize hF:w.heap.size=F at HS|-;generalize w.alloc (.cells (pU t.fb p.b).toArray 36)=w1 at HS|-;have y0:=HS.row.cell 0 _ rfl;go_wp2_with fail;clear y0;refine bC (fun W:World=>W.cell? F=some (t.fb.C:Y)/\W.cell? ⟨t.B,13,none⟩=some (p.now:Y)) (⟨HS.row.cell 0 _ rfl,HS.st.cell 13 p.now rfl⟩) fun hZ=>?_;replace HS:=hid (HS.bel (Below.refl _ _).drew);generalize w1.drew=w3 at HS hZ|-;refine aB 0 1 2 3 ?_;refine aK 4 5 ?_;refine aO 6 ?_;refine aX 7 fun Kq hKq=> ?_;go_simp;refine(ln t.fb p.b.c p.now n _ HS.st.pa.b b3.o ac.o).mono ?_;rintro e w4⟨v,rfl,hl,hc,hch⟩;have k4:=HS.st.pa.onC true t.fb.G _ hc hch (.inl rfl);replace HS:=hid (HS.step k4);have b8:=hid hl;clear hl hc hch k4;dsimp only[km];rw[cM.o];go_simp;refine hKq.out _ _ (⟨HS.row.cell 0 _ rfl,HS.st.cell 13 p.now rfl⟩) ?_;clear hKq Kq hZ;refine fun hZ=>aT ?_;refine aB 8 9 10 11 ?_;refine aB 12 13 14 15 ?_;refine aO 16 ?_;refine az ?_ _;clear hZ;by_cases he:p.b.c.recvErr n=0
 ·have HE:=hid (show p.b.c.recvErr n=0 from he);have cS:=hid (show p.b.c.recvF n=p.b.c.recvE n from(if_neg (by omega)).trans (if_pos HE.o));have ag:=hid (show p.recv true n=(p.setSd true { p.b with c:=(p.b.c.recv p.now n).1,got:=p.b.got++(p.b.c.bx.takeS n),fin:=p.b.fin||p.b.c.recvE n }).put true (p.b.c.recv p.now n).2 from by unfold Pr.recv;dsimp only;rw[if_neg (show ¬(p.sd true).c.recvErr n≠0 from fun hh=>hh HE.o)];rfl);go_wp2_with fail;rw[cS.o];have cT:=hid (lq b3.bx n);have hadd:∀W:World,(Op.stringOp .add (⟨p.b.got.toArray⟩:ByteArray) (⟨(p.b.c.bx.takeS n).toArray⟩:ByteArray)).run Tryz.prog W= .ok (.string ⟨(p.b.got++(p.b.c.bx.takeS n)).toArray⟩) W:=fun W=>run_string_add_sum W _ _ (by have h1:=cF.o;have h2:=cT.o;simp[ByteArray.size];omega);refine bC (fun W:World=>W.cell? ⟨F,3,none⟩=some (.string ⟨p.b.got.toArray⟩)) (HS.row.cell 3 _ rfl) fun hZ=>?_;replace HS:=hid (HS.bel (Below.refl _ _).drew);have a0:=hid (b8.below (Below.refl w4.heap.size w4).drew);generalize w4.drew=w5 at HS hZ a0|-;have c3:w5.cell? ⟨t.B,9,none⟩=some (.string ⟨p.b.got.toArray⟩):=HS.st.cell 9 _ rfl;have f3:=HS.st.free 9;have HT:=hid (HS.set 9 (.string ⟨(p.b.got++(p.b.c.bx.takeS n)).toArray⟩) (p.setSd true { p.b with c:=(p.b.c.recv p.now n).1,got:=p.b.got++(p.b.c.bx.takeS n) }) rfl rfl rfl rfl rfl rfl);refine aB 0 1 2 3 ?_;refine aB 4 5 6 7 ?_;refine aK 8 9 ?_;refine aX 10 fun Kq hKq=> ?_;go_simp;refine hKq.out _ _ (HT.row.cell 3 _ rfl) ?_;clear hKq Kq hZ;refine fun hZ=>aT ?_;refine az ?_ _;clear hZ c3 f3 hadd;generalize ak:w5.setCell ⟨t.B,9,none⟩ (.string ⟨(p.b.got++(p.b.c.bx.takeS n)).toArray⟩)=w6 at HT|-;have a6:=hid (show aJ w6 _ v _ from by rw[<-ak];exact a0.prFr HS.st.pa (by rw[<-HS.st.eB];exact(HS.st.pa.set 9 (.string ⟨(p.b.got++(p.b.c.bx.takeS n)).toArray⟩) (p.setSd true { p.b with c:=(p.b.c.recv p.now n).1,got:=p.b.got++(p.b.c.bx.takeS n) }) rfl rfl rfl rfl rfl rfl).fr));clear ak HS a0;go_wp2_with fail;by_cases hfin:p.b.fin=true
  focus
   refine bC (fun W:World=>W.cell? ⟨F,4,none⟩=some (true:Y)) (HT.row.cell 4 _ (by show some (Value.bool p.b.fin)=_;rw[hfin])) fun hZ=>?_;replace HT:=hid (HT.bel (Below.refl _ _).drew);have a3:=hid (a6.below (Below.refl w6.heap.size w6).drew);generalize w6.drew=w7 at HT a3 hZ|-;have c4:w7.cell? ⟨t.B,10,none⟩=some (true:Y):=(HT.st.cell 10 p.b.fin rfl).trans (by rw[hfin]);have f4:=HT.st.free 10;have HU:=hid (HT.set 10 true (p.setSd true { p.b with c:=(p.b.c.recv p.now n).1,got:=p.b.got++(p.b.c.bx.takeS n),fin:=true }) rfl rfl rfl rfl rfl rfl);refine aB 0 1 2 3 ?_;refine aO 4 ?_;refine aV 5 ?_;refine aB 6 7 8 9 ?_;refine aO 10 ?_;refine aX 11 fun Kq hKq=> ?_;go_simp;refine hKq.out _ _ (HU.row.cell 4 _ (by show some (Value.bool p.b.fin)=_;rw[hfin])) ?_;clear hKq Kq hZ;refine fun hZ=>aT ?_;refine az ?_ _;clear hZ c4 f4;generalize al:w7.setCell ⟨t.B,10,none⟩ true=w8 at HU|-;have a7:=hid (show p.recv true n=(p.setSd true { p.b with c:=(p.b.c.recv p.now n).1,got:=p.b.got++(p.b.c.bx.takeS n),fin:=true }).put true (p.b.c.recv p.now n).2 from by rw[ag.o,hfin];rfl);have am:=hid (show aJ w8 _ v _ from by rw[<-al];exact a3.prFr HT.st.pa (by rw[<-HT.st.eB];exact(HT.st.pa.set 10 true (p.setSd true { p.b with c:=(p.b.c.recv p.now n).1,got:=p.b.got++(p.b.c.bx.takeS n),fin:=true }) rfl rfl rfl rfl rfl rfl).fr));clear al hfin;have a5:=hid (dS (X:=p.setSd true { p.b with c:=(p.b.c.recv p.now n).1,got:=p.b.got++(p.b.c.bx.takeS n),fin:=true }) (i:=true) (l:=(p.b.c.recv p.now n).2) (by rw[<-a7.o];exact b2.o) (by have:=b5.o;show p.wire.length<=400000000;omega) (b4.setSd true _) (by omega))
  rotate_left 1
  focus
   replace hfin:p.b.fin=false:=by simpa using hfin
   refine bC (fun W:World=>W.cell? ⟨F,4,none⟩=some (false:Y)) (HT.row.cell 4 _ (by show some (Value.bool p.b.fin)=_;rw[hfin])) fun hZ=>?_;replace HT:=hid (HT.bel (Below.refl _ _).drew);have a3:=hid (a6.below (Below.refl w6.heap.size w6).drew);generalize w6.drew=w7 at HT a3 hZ|-;have c4:w7.cell? ⟨t.B,10,none⟩=some (false:Y):=(HT.st.cell 10 p.b.fin rfl).trans (by rw[hfin]);have f4:=HT.st.free 10;have HU:=hid (HT.set 10 (p.b.c.recvE n) (p.setSd true { p.b with c:=(p.b.c.recv p.now n).1,got:=p.b.got++(p.b.c.bx.takeS n),fin:=(p.b.c.recvE n) }) rfl rfl rfl rfl rfl rfl);refine aB 0 1 2 3 ?_;refine aB 4 5 6 7 ?_;refine aK 8 9 ?_;refine aO 10 ?_;refine aX 11 fun Kq hKq=> ?_;go_simp;refine hKq.out _ _ (HU.row.cell 4 _ (by show some (Value.bool p.b.fin)=_;rw[hfin])) ?_;clear hKq Kq hZ;refine fun hZ=>aT ?_;refine az ?_ _;clear hZ c4 f4;generalize al:w7.setCell ⟨t.B,10,none⟩ (p.b.c.recvE n)=w8 at HU|-;have a7:=hid (show p.recv true n=(p.setSd true { p.b with c:=(p.b.c.recv p.now n).1,got:=p.b.got++(p.b.c.bx.takeS n),fin:=(p.b.c.recvE n) }).put true (p.b.c.recv p.now n).2 from by rw[ag.o,hfin];rfl);have am:=hid (show aJ w8 _ v _ from by rw[<-al];exact a3.prFr HT.st.pa (by rw[<-HT.st.eB];exact(HT.st.pa.set 10 (p.b.c.recvE n) (p.setSd true { p.b with c:=(p.b.c.recv p.now n).1,got:=p.b.got++(p.b.c.bx.takeS n),fin:=(p.b.c.recvE n) }) rfl rfl rfl rfl rfl rfl).fr));clear al hfin;have a5:=hid (dS (X:=p.setSd true { p.b with c:=(p.b.c.recv p.now n).1,got:=p.b.got++(p.b.c.bx.takeS n),fin:=(p.b.c.recvE n) }) (i:=true) (l:=(p.b.c.recv p.now n).2) (by rw[<-a7.o];exact b2.o) (by have:=b5.o;show p.wire.length<=400000000;omega) (b4.setSd true _) (by omega))
  all_goals
   have a4:=cJ N _ _ true _ v _ _ HU.st.pa am.o a5.1 a5.2.1 a5.2.2 ad.o;rw[HU.st.eB,show bI true=1 from rfl]at a4;go_wp2_with fail;refine a4.mono ?_;rintro e w9⟨rfl,t9,k9⟩;go_wp2_with fail
   go_end0
   exact⟨rfl,t9,by rw[HR.o,a7.o];exact HU.st.trans k9⟩
 have b6:=hid (show ¬p.b.c.recvErr n=0 from he);go_wp2_with fail
 go_end0
 have e2:p.recv true n=p.setC true (p.b.c.recv p.now n).1:=by unfold Pr.recv;dsimp only;exact if_pos (show(p.sd true).c.recvErr n≠0 from b6.o)
 refine⟨rfl,?_⟩;rw[HR.o,e2];exact⟨_,HS.st⟩
end
section
set_option maxHeartbeats 8000000
set_option maxRecDepth 100000
open Go.RowKit Go.Shelf
theorem fm (N:Nat) (t:Ft) (p:Pr) (i:Bool) (n:Int) (w:World) (q r:Int) (h:PrAt N t p w) (hk:Pr.Fit p q r) (hq:q<=90000000) (hr:r<=90000000000) (hm:p.Ml) (hn:0<=n/\n<=1000000) :
  Calls Tryz.prog 44 #[t.B,(bI i),n] w (jI N t w (p.send i n)):=by
 cases i
 ·have y0:w.cell? t.B=some (t.fa.C:Y):=h.cell 0 _ rfl;have y1:w.cell? ⟨t.B,1,none⟩=some (.string ⟨p.a.all.toArray⟩):=h.cell 1 _ rfl;have y2:w.cell? ⟨t.B,2,none⟩=some (p.a.sent:Y):=h.cell 2 _ rfl;have y3:w.cell? ⟨t.B,3,none⟩=some (.string ⟨p.a.got.toArray⟩):=h.cell 3 _ rfl;have y4:w.cell? ⟨t.B,4,none⟩=some (p.a.fin:Y):=h.cell 4 _ rfl;have y5:w.cell? ⟨t.B,5,none⟩=some (p.a.closed:Y):=h.cell 5 _ rfl;have ac:=hid hk.in64;have b2:=hid (Pr.send_fit hk false n);have a9:=hid (hk.sd false);have b3:=hid hk.a.c;have b4:=hid hm;have b5:=hid hk.wlen;have ad:=hid hk.now;have ab:=hid h;obtain⟨hn0,cL⟩:=hn;have hs0:0<=p.a.sent:=hk.a.s0;have hs1:p.a.sent<=p.a.all.length:=hk.a.sl;have hs2:p.a.all.length<=1000:=hk.a.len;show Calls _ _ #[t.B,(0:Int),n] _ _;clear h hk hm;have hz:(⟨p.a.all.toArray⟩:ByteArray).size=p.a.all.length:=by simp[ByteArray.size]
  obtain⟨R,hR⟩:∃R,R=p.send false n:=⟨_,rfl⟩;rw[<-hR];have HR:=hid hR;clear hR
  go_enter Tryz.func44,Tryz.ntmps44
  by_cases hcl:p.a.closed=true
  ·go_wp2_with fail;refine bodyPost_ret (results_none rfl _ _ _) rfl ⟨rfl,t,?_⟩;rw[HR.o];have e:p.send false n=p:=by unfold Pr.send;exact if_pos ((.inl hcl))
   rw[e];exact ab.alloc _
  replace hcl:p.a.closed=false:=by simpa using hcl
  by_cases hlt:(p.a.all.length:Int)<=p.a.sent
  ·go_wp2_with fail;refine bodyPost_ret (results_none rfl _ _ _) rfl ⟨rfl,t,?_⟩;rw[HR.o];have e:p.send false n=p:=by unfold Pr.send;exact if_pos ((.inr hlt))
   rw[e];exact ab.alloc _
  have bc:=hid (show ¬((p.sd false).closed=true\/((p.sd false).all.length:Int)<=(p.sd false).sent)from by(rintro (hh | hh);exact absurd (hcl.symm.trans hh) (by decide);exact hlt hh));go_wp2_with fail;clear y0 y1 y2 y3 y4 y5;change Code.wp _ _ _ _ (w.alloc (.cells (pU t.fa ({ p.a with closed:=false }:Sd)).toArray 36));have HS:=hid (Ps.new (PrSt.start ab.o) t.fa ({ p.a with closed:=false }:Sd));generalize hF:w.heap.size=F at HS|-;generalize w.alloc (.cells (pU t.fa ({ p.a with closed:=false }:Sd)).toArray 36)=w1 at HS|-;have d9:=hid hcl;clear hcl;obtain⟨m,hm⟩:∃m:Int,m=min (p.a.sent+n) p.a.all.length:=⟨_,rfl⟩;have hm0:p.a.sent<=m:=by omega
  have da:m<=p.a.all.length:=by omega
  have hm2:0<=m:=by omega
  have cX:=hid hm;have cY:=hid (show Pr.bytes (p.sd false) n=(p.a.all.take m.toNat).drop p.a.sent.toNat from by rw[hm];rfl);clear hm;refine bC (fun W:World=>W.cell? F=some (t.fa.C:Y)/\W.cell? ⟨F,1,none⟩=some (.string ⟨p.a.all.toArray⟩)/\W.cell? ⟨F,2,none⟩=some (p.a.sent:Y)/\W.cell? ⟨t.B,13,none⟩=some (p.now:Y)) (⟨HS.row.cell 0 _ rfl,HS.row.cell 1 _ rfl,HS.row.cell 2 _ rfl,HS.st.cell 13 p.now rfl⟩) fun hZ=>?_;replace HS:=hid (HS.bel (Below.refl _ _).drew);generalize w1.drew=w3 at HS hZ|-;refine aB 0 1 2 3 ?_;refine aB 4 5 6 7 ?_;refine aB 8 9 10 11 ?_;refine aO 12 ?_;refine aO 13 (v:=.int .i64 (p.a.sent+n)) ?_ (hy:=by intro w hSw;(obtain⟨z0,z1,z2,z3⟩:=hSw);go_simp;(rw[IntWalk.i64_in (p.a.sent+n) (by omega)]));refine aK 14 15 ?_;refine aO 16 ?_;refine aO 17 (v:=.int .i64 m) ?_ (hy:=by intro w hSw;(obtain⟨z0,z1,z2,z3⟩:=hSw);go_simp;(rw[cX.o]));refine aO 18 (v:=.string ⟨(Pr.bytes (p.sd false) n).toArray⟩) ?_ (hy:=by intro w hSw;(obtain⟨z0,z1,z2,z3⟩:=hSw);go_simp;(rw[cY.o,<-ff]));refine aX 19 fun Kq hKq=> ?_;go_simp;refine(lm t.fa p.a.c p.now (Pr.bytes (p.sd false) n) _ HS.st.pa.a b3.o ac.o (by have h1:=Pr.bytes_len a9.o n;have h2:=a9.last;have h3:(p.sd false).all.length<=1000:=a9.len;have h4:=a9.s0;have h5:=a9.sl;show(p.sd false).c.last+_<=_;omega)).mono ?_;rintro e w4⟨v,rfl,hl,hc,hch⟩;have k4:=HS.st.pa.onC false t.fa.G _ hc hch (.inl rfl);replace HS:=hid (HS.step k4);have b8:=hid hl;clear hl hc hch k4;dsimp only[kj];go_simp;refine hKq.out _ _ (⟨HS.row.cell 0 _ rfl,HS.row.cell 1 _ rfl,HS.row.cell 2 _ rfl,HS.st.cell 13 p.now rfl⟩) ?_;clear hKq Kq hZ;refine fun hZ=>aT ?_;refine aB 20 21 22 23 ?_;refine aK 24 25 ?_;refine aO 26 ?_;refine az ?_ _;clear hZ;by_cases he:p.a.c.refusal=0
  ·have HE:=hid (show p.a.c.refusal=0 from he);have ag:=hid (show p.send false n=(p.setSd false { p.a with c:=(p.a.c.send p.now (Pr.bytes (p.sd false) n)).1,sent:=p.a.sent+p.a.c.sendN (Pr.bytes (p.sd false) n) }).put false (p.a.c.send p.now (Pr.bytes (p.sd false) n)).2 from by unfold Pr.send;dsimp only;rw[if_neg bc.o,if_neg (show ¬(p.sd false).c.refusal≠0 from fun hh=>hh HE.o)];rfl);have c0:=hid (show p.a.c.sentN (Pr.bytes (p.sd false) n)=p.a.c.sendN (Pr.bytes (p.sd false) n)from if_pos HE.o);have c1:0<=p.a.c.sendN (Pr.bytes (p.sd false) n)/\p.a.c.sendN (Pr.bytes (p.sd false) n)<=1000:=by have h1:=Pr.bytes_len a9.o n;have h3:(p.sd false).all.length<=1000:=a9.len;have h4:=a9.s0;unfold Cn.sendN Cn.space;split <;> omega
   go_wp2_with fail;rw[c0.o];obtain⟨kk,hkk⟩:∃kk,kk=p.a.c.sendN (Pr.bytes (p.sd false) n):=⟨_,rfl⟩;have bd:=hid hkk;rw[<-hkk]at c1|-;clear hkk;refine bC (fun W:World=>W.cell? ⟨F,2,none⟩=some (p.a.sent:Y)) (HS.row.cell 2 _ rfl) fun hZ=>?_;replace HS:=hid (HS.bel (Below.refl _ _).drew);have a0:=hid (b8.below (Below.refl w4.heap.size w4).drew);generalize w4.drew=w5 at HS hZ a0|-;have c3:w5.cell? ⟨t.B,2,none⟩=some (p.a.sent:Y):=HS.st.cell 2 _ rfl;have f3:=HS.st.free 2;have HT:=hid (HS.set 2 (p.a.sent+kk:Int) (p.setSd false { p.a with c:=(p.a.c.send p.now (Pr.bytes (p.sd false) n)).1,sent:=p.a.sent+p.a.c.sendN (Pr.bytes (p.sd false) n) }) (by rw[bd.o];rfl) rfl rfl rfl rfl rfl);refine aB 0 1 2 3 ?_;refine aO 4 ?_;refine aO 5 (v:=.int .i64 (p.a.sent+kk)) ?_ (hy:=by intro w hSw;(try dsimp only at hSw);go_simp;(rw[IntWalk.i64_in (p.a.sent+kk) (by omega)]));refine aB 6 7 8 9 ?_;refine aX 10 fun Kq hKq=> ?_;go_simp;refine hKq.out _ _ (HT.row.cell 2 _ rfl) ?_;clear hKq Kq hZ;refine fun hZ=>aT ?_;refine az ?_ _;clear hZ c3 f3;generalize ak:w5.setCell ⟨t.B,2,none⟩ (p.a.sent+kk:Int)=w6 at HT|-;have a6:=hid (show aJ w6 _ v _ from by rw[<-ak];exact a0.prFr HS.st.pa (by rw[<-HS.st.eB];exact(HS.st.pa.set 2 (p.a.sent+kk:Int) (p.setSd false { p.a with c:=(p.a.c.send p.now (Pr.bytes (p.sd false) n)).1,sent:=p.a.sent+p.a.c.sendN (Pr.bytes (p.sd false) n) }) (by rw[bd.o];rfl) rfl rfl rfl rfl rfl).fr));clear ak;have a5:=hid (dS (X:=p.setSd false { p.a with c:=(p.a.c.send p.now (Pr.bytes (p.sd false) n)).1,sent:=p.a.sent+p.a.c.sendN (Pr.bytes (p.sd false) n) }) (i:=false) (l:=(p.a.c.send p.now (Pr.bytes (p.sd false) n)).2) (by rw[<-ag.o];exact b2.o) (by have:=b5.o;show p.wire.length<=400000000;omega) (b4.setSd false _) (by omega));have a4:=cJ N _ _ false _ v _ _ HT.st.pa a6.o a5.1 a5.2.1 a5.2.2 ad.o;rw[HT.st.eB,show bI false=0 from rfl]at a4;go_wp2_with fail;refine a4.mono ?_;rintro e w9⟨rfl,t9,k9⟩;go_wp2_with fail
   go_end0
   exact⟨rfl,t9,by rw[HR.o,ag.o];exact HT.st.trans k9⟩
  have b6:=hid (show ¬p.a.c.refusal=0 from he);go_wp2_with fail
  go_end0
  have e1:(p.a.c.send p.now (Pr.bytes (p.sd false) n)).1=p.a.c:=by unfold Cn.send;rw[if_pos b6.o]
  have e2:p.send false n=p:=by unfold Pr.send;dsimp only;rw[if_neg bc.o,if_pos (show(p.sd false).c.refusal≠0 from b6.o)]
  refine⟨rfl,?_⟩;rw[HR.o,e2];have:=HS.st;rw[gZ p false (show(p.a.c.send p.now (Pr.bytes (p.sd false) n)).1=(p.sd false).c from e1)]at this;exact⟨_,this⟩
 have y0:w.cell? ⟨t.B,6,none⟩=some (t.fb.C:Y):=h.cell 6 _ rfl;have y1:w.cell? ⟨t.B,7,none⟩=some (.string ⟨p.b.all.toArray⟩):=h.cell 7 _ rfl;have y2:w.cell? ⟨t.B,8,none⟩=some (p.b.sent:Y):=h.cell 8 _ rfl;have y3:w.cell? ⟨t.B,9,none⟩=some (.string ⟨p.b.got.toArray⟩):=h.cell 9 _ rfl;have y4:w.cell? ⟨t.B,10,none⟩=some (p.b.fin:Y):=h.cell 10 _ rfl;have y5:w.cell? ⟨t.B,11,none⟩=some (p.b.closed:Y):=h.cell 11 _ rfl;have ac:=hid hk.in64;have b2:=hid (Pr.send_fit hk true n);have a9:=hid (hk.sd true);have b3:=hid hk.b.c;have b4:=hid hm;have b5:=hid hk.wlen;have ad:=hid hk.now;have ab:=hid h;obtain⟨hn0,cL⟩:=hn;have hs0:0<=p.b.sent:=hk.b.s0;have hs1:p.b.sent<=p.b.all.length:=hk.b.sl;have hs2:p.b.all.length<=1000:=hk.b.len;show Calls _ _ #[t.B,(1:Int),n] _ _;clear h hk hm;have hz:(⟨p.b.all.toArray⟩:ByteArray).size=p.b.all.length:=by simp[ByteArray.size]
 obtain⟨R,hR⟩:∃R,R=p.send true n:=⟨_,rfl⟩;rw[<-hR];have HR:=hid hR;clear hR
 go_enter Tryz.func44,Tryz.ntmps44
 by_cases hcl:p.b.closed=true
 ·go_wp2_with fail;refine bodyPost_ret (results_none rfl _ _ _) rfl ⟨rfl,t,?_⟩;rw[HR.o];have e:p.send true n=p:=by unfold Pr.send;exact if_pos ((.inl hcl))
  rw[e];exact ab.alloc _
 replace hcl:p.b.closed=false:=by simpa using hcl
 by_cases hlt:(p.b.all.length:Int)<=p.b.sent
 ·go_wp2_with fail;refine bodyPost_ret (results_none rfl _ _ _) rfl ⟨rfl,t,?_⟩;rw[HR.o];have e:p.send true n=p:=by unfold Pr.send;exact if_pos ((.inr hlt))
  rw[e];exact ab.alloc _
 have bc:=hid (show ¬((p.sd true).closed=true\/((p.sd true).all.length:Int)<=(p.sd true).sent)from by(rintro (hh | hh);exact absurd (hcl.symm.trans hh) (by decide);exact hlt hh));go_wp2_with fail;clear y0 y1 y2 y3 y4 y5;change Code.wp _ _ _ _ (w.alloc (.cells (pU t.fb ({ p.b with closed:=false }:Sd)).toArray 36));have HS:=hid (Ps.new (PrSt.start ab.o) t.fb ({ p.b with closed:=false }:Sd));generalize hF:w.heap.size=F at HS|-;generalize w.alloc (.cells (pU t.fb ({ p.b with closed:=false }:Sd)).toArray 36)=w1 at HS|-;have d9:=hid hcl;clear hcl;obtain⟨m,hm⟩:∃m:Int,m=min (p.b.sent+n) p.b.all.length:=⟨_,rfl⟩;have hm0:p.b.sent<=m:=by omega
 have da:m<=p.b.all.length:=by omega
 have hm2:0<=m:=by omega
 have cX:=hid hm;have cY:=hid (show Pr.bytes (p.sd true) n=(p.b.all.take m.toNat).drop p.b.sent.toNat from by rw[hm];rfl);clear hm;refine bC (fun W:World=>W.cell? F=some (t.fb.C:Y)/\W.cell? ⟨F,1,none⟩=some (.string ⟨p.b.all.toArray⟩)/\W.cell? ⟨F,2,none⟩=some (p.b.sent:Y)/\W.cell? ⟨t.B,13,none⟩=some (p.now:Y)) (⟨HS.row.cell 0 _ rfl,HS.row.cell 1 _ rfl,HS.row.cell 2 _ rfl,HS.st.cell 13 p.now rfl⟩) fun hZ=>?_;replace HS:=hid (HS.bel (Below.refl _ _).drew);generalize w1.drew=w3 at HS hZ|-;refine aB 0 1 2 3 ?_;refine aB 4 5 6 7 ?_;refine aB 8 9 10 11 ?_;refine aO 12 ?_;refine aO 13 (v:=.int .i64 (p.b.sent+n)) ?_ (hy:=by intro w hSw;(obtain⟨z0,z1,z2,z3⟩:=hSw);go_simp;(rw[IntWalk.i64_in (p.b.sent+n) (by omega)]));refine aK 14 15 ?_;refine aO 16 ?_;refine aO 17 (v:=.int .i64 m) ?_ (hy:=by intro w hSw;(obtain⟨z0,z1,z2,z3⟩:=hSw);go_simp;(rw[cX.o]));refine aO 18 (v:=.string ⟨(Pr.bytes (p.sd true) n).toArray⟩) ?_ (hy:=by intro w hSw;(obtain⟨z0,z1,z2,z3⟩:=hSw);go_simp;(rw[cY.o,<-ff]));refine aX 19 fun Kq hKq=> ?_;go_simp;refine(lm t.fb p.b.c p.now (Pr.bytes (p.sd true) n) _ HS.st.pa.b b3.o ac.o (by have h1:=Pr.bytes_len a9.o n;have h2:=a9.last;have h3:(p.sd true).all.length<=1000:=a9.len;have h4:=a9.s0;have h5:=a9.sl;show(p.sd true).c.last+_<=_;omega)).mono ?_;rintro e w4⟨v,rfl,hl,hc,hch⟩;have k4:=HS.st.pa.onC true t.fb.G _ hc hch (.inl rfl);replace HS:=hid (HS.step k4);have b8:=hid hl;clear hl hc hch k4;dsimp only[kj];go_simp;refine hKq.out _ _ (⟨HS.row.cell 0 _ rfl,HS.row.cell 1 _ rfl,HS.row.cell 2 _ rfl,HS.st.cell 13 p.now rfl⟩) ?_;clear hKq Kq hZ;refine fun hZ=>aT ?_;refine aB 20 21 22 23 ?_;refine aK 24 25 ?_;refine aO 26 ?_;refine az ?_ _;clear hZ;by_cases he:p.b.c.refusal=0
 ·have HE:=hid (show p.b.c.refusal=0 from he);have ag:=hid (show p.send true n=(p.setSd true { p.b with c:=(p.b.c.send p.now (Pr.bytes (p.sd true) n)).1,sent:=p.b.sent+p.b.c.sendN (Pr.bytes (p.sd true) n) }).put true (p.b.c.send p.now (Pr.bytes (p.sd true) n)).2 from by unfold Pr.send;dsimp only;rw[if_neg bc.o,if_neg (show ¬(p.sd true).c.refusal≠0 from fun hh=>hh HE.o)];rfl);have c0:=hid (show p.b.c.sentN (Pr.bytes (p.sd true) n)=p.b.c.sendN (Pr.bytes (p.sd true) n)from if_pos HE.o);have c1:0<=p.b.c.sendN (Pr.bytes (p.sd true) n)/\p.b.c.sendN (Pr.bytes (p.sd true) n)<=1000:=by have h1:=Pr.bytes_len a9.o n;have h3:(p.sd true).all.length<=1000:=a9.len;have h4:=a9.s0;unfold Cn.sendN Cn.space;split <;> omega
  go_wp2_with fail;rw[c0.o];obtain⟨kk,hkk⟩:∃kk,kk=p.b.c.sendN (Pr.bytes (p.sd true) n):=⟨_,rfl⟩;have bd:=hid hkk;rw[<-hkk]at c1|-;clear hkk;refine bC (fun W:World=>W.cell? ⟨F,2,none⟩=some (p.b.sent:Y)) (HS.row.cell 2 _ rfl) fun hZ=>?_;replace HS:=hid (HS.bel (Below.refl _ _).drew);have a0:=hid (b8.below (Below.refl w4.heap.size w4).drew);generalize w4.drew=w5 at HS hZ a0|-;have c3:w5.cell? ⟨t.B,8,none⟩=some (p.b.sent:Y):=HS.st.cell 8 _ rfl;have f3:=HS.st.free 8;have HT:=hid (HS.set 8 (p.b.sent+kk:Int) (p.setSd true { p.b with c:=(p.b.c.send p.now (Pr.bytes (p.sd true) n)).1,sent:=p.b.sent+p.b.c.sendN (Pr.bytes (p.sd true) n) }) (by rw[bd.o];rfl) rfl rfl rfl rfl rfl);refine aB 0 1 2 3 ?_;refine aO 4 ?_;refine aO 5 (v:=.int .i64 (p.b.sent+kk)) ?_ (hy:=by intro w hSw;(try dsimp only at hSw);go_simp;(rw[IntWalk.i64_in (p.b.sent+kk) (by omega)]));refine aB 6 7 8 9 ?_;refine aX 10 fun Kq hKq=> ?_;go_simp;refine hKq.out _ _ (HT.row.cell 2 _ rfl) ?_;clear hKq Kq hZ;refine fun hZ=>aT ?_;refine az ?_ _;clear hZ c3 f3;generalize ak:w5.setCell ⟨t.B,8,none⟩ (p.b.sent+kk:Int)=w6 at HT|-;have a6:=hid (show aJ w6 _ v _ from by rw[<-ak];exact a0.prFr HS.st.pa (by rw[<-HS.st.eB];exact(HS.st.pa.set 8 (p.b.sent+kk:Int) (p.setSd true { p.b with c:=(p.b.c.send p.now (Pr.bytes (p.sd true) n)).1,sent:=p.b.sent+p.b.c.sendN (Pr.bytes (p.sd true) n) }) (by rw[bd.o];rfl) rfl rfl rfl rfl rfl).fr));clear ak;have a5:=hid (dS (X:=p.setSd true { p.b with c:=(p.b.c.send p.now (Pr.bytes (p.sd true) n)).1,sent:=p.b.sent+p.b.c.sendN (Pr.bytes (p.sd true) n) }) (i:=true) (l:=(p.b.c.send p.now (Pr.bytes (p.sd true) n)).2) (by rw[<-ag.o];exact b2.o) (by have:=b5.o;show p.wire.length<=400000000;omega) (b4.setSd true _) (by omega));have a4:=cJ N _ _ true _ v _ _ HT.st.pa a6.o a5.1 a5.2.1 a5.2.2 ad.o;rw[HT.st.eB,show bI true=1 from rfl]at a4;go_wp2_with fail;refine a4.mono ?_;rintro e w9⟨rfl,t9,k9⟩;go_wp2_with fail
  go_end0
  exact⟨rfl,t9,by rw[HR.o,ag.o];exact HT.st.trans k9⟩
 have b6:=hid (show ¬p.b.c.refusal=0 from he);go_wp2_with fail
 go_end0
 have e1:(p.b.c.send p.now (Pr.bytes (p.sd true) n)).1=p.b.c:=by unfold Cn.send;rw[if_pos b6.o]
 have e2:p.send true n=p:=by unfold Pr.send;dsimp only;rw[if_neg bc.o,if_pos (show(p.sd true).c.refusal≠0 from b6.o)]
 refine⟨rfl,?_⟩;rw[HR.o,e2];have:=HS.st;rw[gZ p true (show(p.b.c.send p.now (Pr.bytes (p.sd true) n)).1=(p.sd true).c from e1)]at this;exact⟨_,this⟩
end
section
set_option maxHeartbeats 8000000
set_option maxRecDepth 100000
open Go.RowKit Go.Shelf
theorem ja {s o:Sd}(h:Pr.viol1 s o=false)(hl:o.sent<=o.all.length):(s.got.length:Int)<=o.sent/\s.got=o.all.take s.got.length/\(s.fin=true->o.closed=true/\(s.got.length:Int)=o.sent):=by
 unfold Pr.viol1 at h;rw[Bool.or_eq_false_iff,Bool.or_eq_false_iff,decide_eq_false_iff_not,decide_eq_false_iff_not]at h;obtain⟨h1,h2,h3⟩:=h;refine⟨by omega,?_,fun hf=> ?_⟩
 ·have h4:=Decidable.not_not.1 h2
  rwa [show min s.got.length o.all.length=s.got.length by omega]at h4
 rw[hf]at h3
 cases hc:o.closed with
 | false=>rw[hc]at h3;cases h3
 | true =>
  rw[hc]at h3;exact⟨rfl,by simpa using h3⟩
theorem lr (N:Nat) (t:Ft) (p:Pr) (w:World) (q r:Int) (h:PrAt N t p w) (hk:Pr.Fit p q r) (h1:Pr.viol1 p.a p.b=false) (h2:Pr.viol1 p.b p.a=false) :
  Calls Tryz.prog 36 #[t.B] w fun e w'=>e= .returned (0:Int)/\Below w.heap.size w w':=by
 have ab:=hid h;have HA:=hid (ja h1 hk.b.sl);have HB:=hid (ja h2 hk.a.sl);have el:=hk.a.sl;have em:=hk.a.len;have en:=hk.b.sl;have er:=hk.b.len;clear h h1 h2 hk
 go_enter Tryz.func36,Tryz.ntmps36
 go_wp2_with fail
 go_loopg [3,4] 2 (fun g nv iv wr=>∃(k:Nat),nv=((0:Int):Y)/\iv=((k:Int):Y)/\g+k=2/\Below w.heap.size w wr)
 case atStart=>exact⟨0,rfl,rfl,rfl,.refl _ _⟩
 case round =>
  obtain⟨k,rfl,rfl,c2,hb⟩:=hrel;have be:=hid hb;have HS:=hid (ab.bel hb);clear hb;have dc:=HS.pa.lt;have hk3:k=0\/k=1\/k=2:=by omega
  rcases hk3 with hk0 | hk1 | hk2
  ·subst hk0;have y0:wr.cell? ⟨t.B,3,none⟩=some (.string ⟨p.a.got.toArray⟩):=HS.cell 3 _ rfl;have x0:wr.cell? ⟨t.B,6,none⟩=some (t.fb.C:Y):=HS.cell 6 _ rfl;have x1:wr.cell? ⟨t.B,7,none⟩=some (.string ⟨p.b.all.toArray⟩):=HS.cell 7 _ rfl;have x2:wr.cell? ⟨t.B,8,none⟩=some (p.b.sent:Y):=HS.cell 8 _ rfl;have x3:wr.cell? ⟨t.B,9,none⟩=some (.string ⟨p.b.got.toArray⟩):=HS.cell 9 _ rfl;have x4:wr.cell? ⟨t.B,10,none⟩=some (p.b.fin:Y):=HS.cell 10 _ rfl;have x5:wr.cell? ⟨t.B,11,none⟩=some (p.b.closed:Y):=HS.cell 11 _ rfl;obtain⟨g1,g2,g3⟩:=HA.o;have hz1:(⟨p.a.got.toArray⟩:ByteArray).size=p.a.got.length:=by simp[ByteArray.size]
   have hz2:(⟨p.b.all.toArray⟩:ByteArray).size=p.b.all.length:=by simp[ByteArray.size]
   have hgt:decide (p.b.sent<(p.a.got.length:Int))=false:=decide_eq_false (by omega);have hmin:min (p.a.got.length:Int) (p.b.all.length:Int)=(p.a.got.length:Int):=by omega
   have hgl:(p.a.got.length:Int)<=(p.b.all.length:Int):=by omega
   have hex:(⟨p.b.all.toArray⟩:ByteArray).extract 0 p.a.got.length=⟨p.a.got.toArray⟩:=by rw[ff,List.drop_zero,<-g2]
   clear g2;by_cases hf:p.a.fin=true
   ·obtain⟨g4,g5⟩:=g3 hf;have z4:wr.cell? ⟨t.B,4,none⟩=some (true:Y):=(HS.cell 4 p.a.fin rfl).trans (by rw[hf]);rw[g4]at x5;have hne:((p.a.got.length:Int) != p.b.sent)=false:=by rw[g5];simp
    clear g3 hf g4 g5;go_wp2_with fail
    go_roundg (gk-1)
    case measure=>omega
    case rel=>exact⟨1,by first | rfl | go_num,by first | rfl | go_num,by omega,aZ be.o ((Below.refl wr.heap.size wr).alloc (Nat.le_refl _) _)⟩
   have z4:wr.cell? ⟨t.B,4,none⟩=some (false:Y):=(HS.cell 4 p.a.fin rfl).trans (by simpa using hf);clear g3 hf;go_wp2_with fail
   go_roundg (gk-1)
   case measure=>omega
   case rel=>exact⟨1,by first | rfl | go_num,by first | rfl | go_num,by omega,aZ be.o ((Below.refl wr.heap.size wr).alloc (Nat.le_refl _) _)⟩
  ·subst hk1;have y0:wr.cell? ⟨t.B,9,none⟩=some (.string ⟨p.b.got.toArray⟩):=HS.cell 9 _ rfl;have x0:wr.cell? t.B=some (t.fa.C:Y):=HS.cell 0 _ rfl;have x1:wr.cell? ⟨t.B,1,none⟩=some (.string ⟨p.a.all.toArray⟩):=HS.cell 1 _ rfl;have x2:wr.cell? ⟨t.B,2,none⟩=some (p.a.sent:Y):=HS.cell 2 _ rfl;have x3:wr.cell? ⟨t.B,3,none⟩=some (.string ⟨p.a.got.toArray⟩):=HS.cell 3 _ rfl;have x4:wr.cell? ⟨t.B,4,none⟩=some (p.a.fin:Y):=HS.cell 4 _ rfl;have x5:wr.cell? ⟨t.B,5,none⟩=some (p.a.closed:Y):=HS.cell 5 _ rfl;obtain⟨g1,g2,g3⟩:=HB.o;have hz1:(⟨p.b.got.toArray⟩:ByteArray).size=p.b.got.length:=by simp[ByteArray.size]
   have hz2:(⟨p.a.all.toArray⟩:ByteArray).size=p.a.all.length:=by simp[ByteArray.size]
   have hgt:decide (p.a.sent<(p.b.got.length:Int))=false:=decide_eq_false (by omega);have hmin:min (p.b.got.length:Int) (p.a.all.length:Int)=(p.b.got.length:Int):=by omega
   have hgl:(p.b.got.length:Int)<=(p.a.all.length:Int):=by omega
   have hex:(⟨p.a.all.toArray⟩:ByteArray).extract 0 p.b.got.length=⟨p.b.got.toArray⟩:=by rw[ff,List.drop_zero,<-g2]
   clear g2;by_cases hf:p.b.fin=true
   ·obtain⟨g4,g5⟩:=g3 hf;have z4:wr.cell? ⟨t.B,10,none⟩=some (true:Y):=(HS.cell 10 p.b.fin rfl).trans (by rw[hf]);rw[g4]at x5;have hne:((p.b.got.length:Int) != p.a.sent)=false:=by rw[g5];simp
    clear g3 hf g4 g5;go_wp2_with fail
    go_roundg (gk-1)
    case measure=>omega
    case rel=>exact⟨2,by first | rfl | go_num,by first | rfl | go_num,by omega,aZ be.o ((Below.refl wr.heap.size wr).alloc (Nat.le_refl _) _)⟩
   have z4:wr.cell? ⟨t.B,10,none⟩=some (false:Y):=(HS.cell 10 p.b.fin rfl).trans (by simpa using hf);clear g3 hf;go_wp2_with fail
   go_roundg (gk-1)
   case measure=>omega
   case rel=>exact⟨2,by first | rfl | go_num,by first | rfl | go_num,by omega,aZ be.o ((Below.refl wr.heap.size wr).alloc (Nat.le_refl _) _)⟩
  subst hk2;go_wp2;go_ret;exact⟨rfl,be.o⟩
end
section
set_option maxHeartbeats 8000000
set_option maxRecDepth 100000
open Go.RowKit Go.Shelf
structure Pz (N:Nat)(t:Ft)(w:World)(X:Nat)(o:Obj)(t1:Ft)(q:Pr)(W:World):Prop where
 st:PrSt N t w t1 q W
 row:W.heap[X]? =some o
 nd:¬t1.D X
 lo:w.heap.size<=X
namespace Pz
variable {N X : Nat} {o : Obj} {t t1 t2 : Ft} {q q' : Pr} {w W W' : World}
theorem lt (h:Pz N t w X o t1 q W):X<W.heap.size:=(Array.getElem?_eq_some_iff.1 h.row).1
theorem new (h:PrSt N t w t1 q W)(o:Obj):Pz N t w W.heap.size o t1 q (W.alloc o) :=
 ⟨h.bel ((Below.refl W.heap.size W).alloc (Nat.le_refl _) _),heap_alloc_new _ _,fun e=>Nat.lt_irrefl _ (h.pa.inD _ e).1,h.size⟩
theorem bel (h:Pz N t w X o t1 q W)(hb:Below W.heap.size W W'):Pz N t w X o t1 q W':=⟨h.st.bel hb,(hb.block X h.lt).trans h.row,h.nd,h.lo⟩
theorem step (h:Pz N t w X o t1 q W)(k:PrSt N t1 W t2 q' W'):Pz N t w X o t2 q' W' :=
 ⟨h.st.trans k,(k.fr.block X h.lt h.nd).trans h.row,fun e=>by
  rcases k.sub X e with h1 | h1
  ·exact h.nd h1
  ·exact Nat.lt_irrefl _ (Nat.lt_of_lt_of_le h.lt h1),h.lo⟩
end Pz
theorem kr:∀(k:Nat) (p:Pr),Pr.ticks (k+1) p=(Pr.ticks k p).tick:=by
 intro k
 induction k with
 | zero=>intro p;rfl
 | succ k ih=>intro p;exact ih p.tick
def rk (x:Dv):List Value:=[x.side,x.kind,x.n,x.tick]
theorem xp (x:Dv):aR x.side 2=bI x.i:=by
 have:=aj x.side 2 (by decide);unfold Dv.i bI;by_cases h:aR x.side 2=1
 ·simp[h]
 simp[h];omega
theorem vn (N:Nat) (t:Ft) (P:Pr.Par) (p:Pr) (n:Int) (x:Dv) (w:World) (h:PrAt N t p w) (hA:Pr.Al P p n) (hP:P.Ok) (h0:0<=n) (hn:n+21<=5000) (hx:aI x.side/\aI x.kind/\aI x.n/\aI x.tick) :
  Calls Tryz.prog 17 #[t.B,.agg #[x.side,x.kind,x.n,x.tick]] w fun e w'=>e= .returned true/\wB N t w (p.doD x).1 w':=by
 obtain⟨hx1,hx2,hx3,cl⟩:=hx;have HX:=hid (And.intro hx1 (And.intro hx2 (And.intro hx3 cl)));have HP:=hid hP;have HA:=hid hA;have HI:=hid (xp x);have cn:=aj x.kind 8 (by decide);have cs:=aj x.n 200 (by decide);have es:=aj x.n 3 (by decide);have dk:=aj x.tick 20 (by decide);obtain⟨dT,dl⟩:=hA.doD hP x h0 hn;have HD:=hid dT;have HO:=hid (hA.opD x);have b9:=hid (Pz.new (PrSt.start h) (.cells (rk x).toArray 32));clear hx1 hx2 hx3 cl hP hA dT dl h
 go_enter Tryz.func17,Tryz.ntmps17
 go_wp2_with fail;change Calls _ _ _ (w.alloc (.cells (rk x).toArray 32)) _;generalize hX:w.heap.size=X at b9|-;generalize w.alloc (.cells (rk x).toArray 32)=w1 at b9|-;have HS:=b9;clear b9;refine(bB x.side 2 _ HX.1 (by decide) (by decide)).mono ?_;rintro e wp⟨rfl,rfl⟩;rw[HI.o];have z1:w1.cell? ⟨X,1,none⟩=some (x.kind:Y):=by rw[cell_of_row _ _ _ _ _ _ HS.row];rfl
 go_wp2_with fail;refine(bB x.kind 8 _ HX.2.1 (by decide) (by decide)).mono ?_;rintro e wp⟨rfl,rfl⟩;clear z1;obtain⟨kd,hkd⟩:∃kd,aR x.kind 8=kd:=⟨_,rfl⟩;rw[hkd]at cn|-;have ax:=hid hkd;clear hkd
 skip
 have h8:kd=0\/kd=1\/kd=2\/kd=3\/kd=4\/kd=5\/kd=6\/kd=7:=by omega
 rcases h8 with hkk | hkk | hkk | hkk | hkk | hkk | hkk | hkk
 focus
  subst hkk;have z2:w1.cell? ⟨X,2,none⟩=some (x.n:Y):=by rw[cell_of_row _ _ _ _ _ _ HS.row];rfl
  go_wp2_with fail;refine(bB x.n 200 _ HX.2.2.1 (by decide) (by decide)).mono ?_;rintro e wp⟨rfl,rfl⟩;clear z2;go_wp2_with fail;refine(fm N t p x.i (1+aR x.n 200) _ _ _ HS.st.pa HA.run.1 (HA.bds (by omega)).1 (HA.bds (by omega)).2 HA.ml (by omega)).mono ?_;rintro e w3⟨rfl,t3,k3⟩;replace HS:=hid (HS.step k3);clear k3;have aF:=hid (show ∃t1,Pz N t w X (.cells (rk x).toArray 32) t1 (p.opD x) w3 from⟨t3,by rw[show p.opD x=p.send x.i (1+aR x.n 200)from by unfold Pr.opD;rw[ax.o];exact if_pos (by decide)];exact HS.o⟩);clear HS
  go_upto_region 14 with fail
  generalize w3=wc at aF|-
 rotate_left 1
 focus
  subst hkk;have z2:w1.cell? ⟨X,2,none⟩=some (x.n:Y):=by rw[cell_of_row _ _ _ _ _ _ HS.row];rfl
  go_wp2_with fail;refine(bB x.n 200 _ HX.2.2.1 (by decide) (by decide)).mono ?_;rintro e wp⟨rfl,rfl⟩;clear z2;go_wp2_with fail;refine(fm N t p x.i (1+aR x.n 200) _ _ _ HS.st.pa HA.run.1 (HA.bds (by omega)).1 (HA.bds (by omega)).2 HA.ml (by omega)).mono ?_;rintro e w3⟨rfl,t3,k3⟩;replace HS:=hid (HS.step k3);clear k3;have aF:=hid (show ∃t1,Pz N t w X (.cells (rk x).toArray 32) t1 (p.opD x) w3 from⟨t3,by rw[show p.opD x=p.send x.i (1+aR x.n 200)from by unfold Pr.opD;rw[ax.o];exact if_pos (by decide)];exact HS.o⟩);clear HS
  go_upto_region 14 with fail
  generalize w3=wc at aF|-
 rotate_left 1
 focus
  subst hkk;have z2:w1.cell? ⟨X,2,none⟩=some (x.n:Y):=by rw[cell_of_row _ _ _ _ _ _ HS.row];rfl
  go_wp2_with fail;refine(bB x.n 200 _ HX.2.2.1 (by decide) (by decide)).mono ?_;rintro e wp⟨rfl,rfl⟩;clear z2;go_wp2_with fail;refine(fm N t p x.i (1+aR x.n 200) _ _ _ HS.st.pa HA.run.1 (HA.bds (by omega)).1 (HA.bds (by omega)).2 HA.ml (by omega)).mono ?_;rintro e w3⟨rfl,t3,k3⟩;replace HS:=hid (HS.step k3);clear k3;have aF:=hid (show ∃t1,Pz N t w X (.cells (rk x).toArray 32) t1 (p.opD x) w3 from⟨t3,by rw[show p.opD x=p.send x.i (1+aR x.n 200)from by unfold Pr.opD;rw[ax.o];exact if_pos (by decide)];exact HS.o⟩);clear HS
  go_upto_region 14 with fail
  generalize w3=wc at aF|-
 rotate_left 1
 focus
  subst hkk;have z2:w1.cell? ⟨X,2,none⟩=some (x.n:Y):=by rw[cell_of_row _ _ _ _ _ _ HS.row];rfl
  go_wp2_with fail;refine(bB x.n 200 _ HX.2.2.1 (by decide) (by decide)).mono ?_;rintro e wp⟨rfl,rfl⟩;clear z2;go_wp2_with fail;refine(eK N t p x.i (1+aR x.n 200) _ _ _ HS.st.pa HA.run.1 (HA.bds (by omega)).1 (HA.bds (by omega)).2 HA.ml (by omega) (Nat.le_trans (HA.got x.i) (by decide))).mono ?_;rintro e w3⟨rfl,t3,k3⟩;replace HS:=hid (HS.step k3);clear k3;have aF:=hid (show ∃t1,Pz N t w X (.cells (rk x).toArray 32) t1 (p.opD x) w3 from⟨t3,by rw[show p.opD x=p.recv x.i (1+aR x.n 200)from by unfold Pr.opD;rw[ax.o];exact(if_neg (by decide)).trans (if_pos (by decide))];exact HS.o⟩);clear HS
  go_upto_region 14 with fail
  generalize w3=wc at aF|-
 rotate_left 1
 focus
  subst hkk;have z2:w1.cell? ⟨X,2,none⟩=some (x.n:Y):=by rw[cell_of_row _ _ _ _ _ _ HS.row];rfl
  go_wp2_with fail;refine(bB x.n 200 _ HX.2.2.1 (by decide) (by decide)).mono ?_;rintro e wp⟨rfl,rfl⟩;clear z2;go_wp2_with fail;refine(eK N t p x.i (1+aR x.n 200) _ _ _ HS.st.pa HA.run.1 (HA.bds (by omega)).1 (HA.bds (by omega)).2 HA.ml (by omega) (Nat.le_trans (HA.got x.i) (by decide))).mono ?_;rintro e w3⟨rfl,t3,k3⟩;replace HS:=hid (HS.step k3);clear k3;have aF:=hid (show ∃t1,Pz N t w X (.cells (rk x).toArray 32) t1 (p.opD x) w3 from⟨t3,by rw[show p.opD x=p.recv x.i (1+aR x.n 200)from by unfold Pr.opD;rw[ax.o];exact(if_neg (by decide)).trans (if_pos (by decide))];exact HS.o⟩);clear HS
  go_upto_region 14 with fail
  generalize w3=wc at aF|-
 rotate_left 1
 focus
  subst hkk;have z2:w1.cell? ⟨X,2,none⟩=some (x.n:Y):=by rw[cell_of_row _ _ _ _ _ _ HS.row];rfl
  go_wp2_with fail;refine(bB x.n 200 _ HX.2.2.1 (by decide) (by decide)).mono ?_;rintro e wp⟨rfl,rfl⟩;clear z2;go_wp2_with fail;refine(eK N t p x.i (1+aR x.n 200) _ _ _ HS.st.pa HA.run.1 (HA.bds (by omega)).1 (HA.bds (by omega)).2 HA.ml (by omega) (Nat.le_trans (HA.got x.i) (by decide))).mono ?_;rintro e w3⟨rfl,t3,k3⟩;replace HS:=hid (HS.step k3);clear k3;have aF:=hid (show ∃t1,Pz N t w X (.cells (rk x).toArray 32) t1 (p.opD x) w3 from⟨t3,by rw[show p.opD x=p.recv x.i (1+aR x.n 200)from by unfold Pr.opD;rw[ax.o];exact(if_neg (by decide)).trans (if_pos (by decide))];exact HS.o⟩);clear HS
  go_upto_region 14 with fail
  generalize w3=wc at aF|-
 rotate_left 1
 focus
  subst hkk;have z2:w1.cell? ⟨X,2,none⟩=some (x.n:Y):=by rw[cell_of_row _ _ _ _ _ _ HS.row];rfl
  go_wp2_with fail;refine(bB x.n 3 _ HX.2.2.1 (by decide) (by decide)).mono ?_;rintro e wp⟨rfl,rfl⟩;clear z2;by_cases h3:aR x.n 3=0
  focus
   have HZ:=hid h3;have hb3:(aR x.n 3==0)=true:=beq_iff_eq.2 h3;clear h3;go_wp2_with fail;refine(iN N t p x.i _ _ _ HS.st.pa HA.run.1 (HA.bds (by omega)).1 (HA.bds (by omega)).2 HA.ml).mono ?_;rintro e w3⟨rfl,t3,k3⟩;replace HS:=hid (HS.step k3);clear k3;have aF:=hid (show ∃t1,Pz N t w X (.cells (rk x).toArray 32) t1 (p.opD x) w3 from⟨t3,by rw[show p.opD x=p.shut x.i from by unfold Pr.opD;rw[ax.o];exact(if_neg (by decide)).trans ((if_neg (by decide)).trans (if_pos ⟨rfl,HZ.o⟩))];exact HS.o⟩);clear HS
   go_upto_region 14 with fail
   generalize w3=wc at aF|-
  rotate_left 1
  focus
   have HZ:=hid h3;have hb3:(aR x.n 3==0)=false:=beq_eq_false_iff_ne.2 h3;clear h3;have aF:=hid (show ∃t1,Pz N t w X (.cells (rk x).toArray 32) t1 (p.opD x) w1 from⟨t,by rw[show p.opD x=p from by unfold Pr.opD;rw[ax.o];exact(if_neg (by decide)).trans ((if_neg (by decide)).trans (if_neg (fun hh=>HZ.o hh.2)))];exact HS.o⟩);clear HS
   go_upto_region 14 with fail
   generalize w1=wc at aF|-
  rotate_left 1
 rotate_left 2
 focus
  subst hkk;have aF:=hid (show ∃t1,Pz N t w X (.cells (rk x).toArray 32) t1 (p.opD x) w1 from⟨t,by rw[show p.opD x=p from by unfold Pr.opD;rw[ax.o];exact(if_neg (by decide)).trans ((if_neg (by decide)).trans (if_neg (fun hh=>absurd hh.1 (by decide))))];exact HS.o⟩);clear HS
  go_upto_region 14 with fail
  generalize w1=wc at aF|-
 rotate_left 1
 all_goals
  obtain⟨t1,hz⟩:=aF.o;have HS:=hid hz;clear hz aF ax cn;obtain⟨K,hK⟩:∃K:Nat,(K:Int)=aR x.tick 20:=⟨(aR x.tick 20).toNat,by omega⟩;have dn:=hid hK;have eu:K<20:=by omega
  have d4:=hid (show(p.doD x).1=Pr.ticks K (p.opD x)from by rw[HD.o,show(aR x.tick 20).toNat=K by omega]);obtain⟨p1,hp1⟩:∃p1,p1=p.opD x:=⟨_,rfl⟩;rw[<-hp1]at HS HO d4;clear hp1 HD HA;go_wp2_with fail
  go_loopg [6] K (fun g iv wr=>∃(k:Nat) (t2:Ft),iv=((k:Int):Y)/\g+k=K/\Pz N t w X (.cells (rk x).toArray 32) t2 (Pr.ticks k p1) wr)
  case atStart=>exact⟨0,t1,rfl,by omega,HS.o⟩
  case round =>
   obtain⟨k,t2,rfl,c2,hst⟩:=hrel;clear HS;have HS:=hid hst;clear hst;have z3:wr.cell? ⟨X,3,none⟩=some (x.tick:Y):=by rw[cell_of_row _ _ _ _ _ _ HS.row];rfl
   have aa:=hid ((Pr.Al.ticksV HP.o k HO.o (by omega) (by omega)).2);go_wp2_with fail;refine(bB x.tick 20 _ HX.2.2.2 (by decide) (by decide)).mono ?_;rintro e wp⟨rfl,rfl⟩;rw[<-dn.o];clear z3;by_cases hk:k<K
   ·have ds:(k:Int)<(K:Int):=by omega
    have bn:=hid (kr k p1);have cC:=hid (aa.tick (by omega) (by omega) HP.o);have a5:=hid (aa.bds (by omega));generalize Pr.ticks k p1=pk at HS aa bn cC a5;go_wp2_with fail;have d5:=dP N t2 pk wr _ _ HS.st.pa aa.run.1 a5.1 a5.2 aa.ml (by have:=aa.run.2;omega);rw[HS.st.eB]at d5;refine d5.mono ?_;rintro e w3⟨rfl,t3,k3⟩;replace HS:=hid (HS.step k3);clear k3;go_wp2_with fail;have bo:=lr N t3 pk.tick w3 _ _ HS.st.pa cC.run.1 cC.v.1 cC.v.2.1;rw[HS.st.eB]at bo;refine bo.mono ?_;rintro e w4⟨rfl,hb4⟩;replace HS:=hid (HS.bel hb4);clear hb4;go_wp2_with fail
    go_roundg (gk-1)
    case measure=>omega
    case rel=>exact⟨k+1,t3,by first | rfl | go_num | (have e:wrap64 ((k:Int)+1)=((k+1:Nat):Int):=(by unfold wrap64;omega);rw[e]),by omega,by rw[bn.o];exact HS.o⟩
   ·have hge:k=K:=by omega
    subst hge;go_wp2_with fail;have bo:=lr N t2 (Pr.ticks k p1) wr _ _ HS.st.pa aa.run.1 aa.v.1 aa.v.2.1;rw[HS.st.eB]at bo;refine bo.mono ?_;rintro e w4⟨rfl,hb4⟩;replace HS:=hid (HS.bel hb4);clear hb4;go_wp2;go_ret;exact⟨rfl,t2,by rw[d4.o];exact HS.st⟩
end
section
set_option maxHeartbeats 8000000
set_option maxRecDepth 100000
open Go.RowKit Go.Shelf
theorem pW (w:World):Calls Tryz.prog 21 #[.pointer none] w fun e w'=>e= .returned (0:Int)/\w=w':=by
 go_enter Tryz.func21,Tryz.ntmps21
 go_wp2
 go_ret;exact⟨rfl,rfl⟩
theorem uX (w:World):Calls Tryz.prog 32 #[.pointer none] w fun e w'=>e= .returned (1:Int)/\w=w':=by
 go_enter Tryz.func32,Tryz.ntmps32
 go_wp2
 go_ret;exact⟨rfl,rfl⟩
theorem gq {fn:Func}{p u:Tmp}{t:TypeId}(h:fn.results= #[.cell p t,.tmp u])(tmps:Array Value)(P:Program)(w:World)(a:Addr)(v:Value)
  (hp:tmps.getD p undef= .pointer (some a))(hg:(loadVar t a).run P w= .ok v w) :
  (results fn tmps).run P w= .ok (.tuple #[v,tmps.getD u undef]) w:=by
 have hp':tmps[p]?.getD undef= .pointer (some a):=by simpa using hp
 simp[results,h,hp',asAddr,hg,Result.andThen]
structure Rfs (w:World)(x y:bp)(W:World):Prop where
 p:aQ w.heap.size x W
 r:aQ (w.heap.size+1) y W
 bel:Below w.heap.size w W
namespace Rfs
variable {x y z : bp} {w W W' : World}
theorem start (x:bp)(w:World):Rfs w x (dg,none,0) ((w.alloc (.cells (aW x).toArray 43)).alloc (.cells (aW (dg,none,0)).toArray 43)):=by
 have b0:=(Below.refl w.heap.size w).alloc (Nat.le_refl _) (.cells (aW x).toArray 43);have r0:=aQ.new w x;have s0:(w.alloc (.cells (aW x).toArray 43)).heap.size=w.heap.size+1:=World.size_alloc ..;generalize w.alloc (.cells (aW x).toArray 43)=w1 at *;have b1:=(Below.refl w1.heap.size w1).alloc (Nat.le_refl _) (.cells (aW (dg,none,0)).toArray 43);have r1:=aQ.new w1 (dg,none,0);rw[s0]at r1;exact⟨r0.below b1,r1,b0.trans (b1.mono (by omega))⟩
theorem below (h:Rfs w x y W)(hb:Below W.heap.size W W'):Rfs w x y W':=⟨h.p.below hb,h.r.below hb,h.bel.trans (hb.mono h.bel.size)⟩
theorem put (h:Rfs w x y W)(z:bp):Rfs w x z (dG W (w.heap.size+1) z) :=
 have hc:=dN W (w.heap.size+1) z
 ⟨h.p.chg hc (by omega),h.r.put,h.bel.trans ⟨hc.os,hc.tape,hc.output,hc.size,fun k hk=>hc.block k (Nat.lt_of_lt_of_le hk h.bel.size) (by omega)⟩⟩
end Rfs
theorem m9 (s:Sg) (a:Option Addr) (cap:Nat) (w:World) (hsp:SpAt w w.heap.size a s.bl) (h:s.okB=false\/s.rst=true) :
  Calls Tryz.prog 27 #[cw s a cap] w fun e w'=>e= .returned (.tuple #[cw dg none 0,false])/\Below w.heap.size w w':=by
 have HS:=hid (Rfs.start (s,a,cap) w);have eC:=hid hsp;clear hsp;unfold cw
 go_enter Tryz.func27,Tryz.ntmps27
 go_upto_region 1 with fail
 change Code.wp _ _ _ _ ((w.alloc (.cells (aW (s,a,cap)).toArray 43)).alloc (.cells (aW (dg,none,0)).toArray 43));generalize (w.alloc (.cells (aW (s,a,cap)).toArray 43)).alloc (.cells (aW (dg,none,0)).toArray 43)=w1 at HS|-;have q0:=HS.p.cell 0 _ rfl;have q1:=HS.p.cell 1 _ rfl;have q2:=HS.p.cell 2 _ rfl;have q3:=HS.p.cell 3 _ rfl;have q4:=HS.p.cell 4 _ rfl;have q5:=HS.p.cell 5 _ rfl;have q6:=HS.p.cell 6 _ rfl;have q7:=HS.p.cell 7 _ rfl;have q8:=HS.p.cell 8 _ rfl;have q9:=HS.p.cell 9 _ rfl;have c5:=HS.p.cell 10 _ rfl;have c6:=HS.p.cell 11 _ rfl;have c7:=HS.p.cell 12 _ rfl;go_wp2_with fail;refine(iz s w.heap.size a cap w1 (eC.below HS.bel) HS.bel.size).mono ?_;rintro e w2⟨rfl,hb⟩;replace HS:=hid (HS.below hb);clear hb;clear q0 q1 q2 q3 q4 q5 q6 q7 q8 q9 c5 c6 c7
 cases ho:s.okB with
 | false =>
  have f0:=HS.r.free 0;have f1:=HS.r.free 1;have f2:=HS.r.free 2;have f3:=HS.r.free 3;have f4:=HS.r.free 4;have f5:=HS.r.free 5;have f6:=HS.r.free 6;have f7:=HS.r.free 7;have f8:=HS.r.free 8;have f9:=HS.r.free 9;have f10:=HS.r.free 10;have f11:=HS.r.free 11;have eL:=HS.r.free 12;have z0:=HS.r.cell 0 _ rfl;have z1:=HS.r.cell 1 _ rfl;have z2:=HS.r.cell 2 _ rfl;have z3:=HS.r.cell 3 _ rfl;have z4:=HS.r.cell 4 _ rfl;have z5:=HS.r.cell 5 _ rfl;have z6:=HS.r.cell 6 _ rfl;have z7:=HS.r.cell 7 _ rfl;have z8:=HS.r.cell 8 _ rfl;have z9:=HS.r.cell 9 _ rfl;have c8:=HS.r.cell 10 _ rfl;have eS:=HS.r.cell 11 _ rfl;have e0:=HS.r.cell 12 _ rfl;go_wp2_with fail;change bodyPost _ _ _ _ _ (dG w2 (w.heap.size+1) (dg,none,0));replace HS:=hid (HS.put (dg,none,0));generalize dG w2 (w.heap.size+1) (dg,none,0)=w3 at HS|-;exact bodyPost_ret (v:=.tuple #[cw (dg) none 0,false]) (gq (p:=2) (u:=3) rfl _ _ _ ⟨w.heap.size+1,0,none⟩ _ rfl (run_loadVar_row _ _ _ _ _ _ _ HS.r Tryz.underlying43 rfl (by kernel_rfl))) rfl ⟨rfl,HS.bel⟩
 | true =>
  have hr:s.rst=true:=by rcases h with h | h;rw[ho]at h;cases h;exact h
  have r6:=(HS.p.cell 6 s.rst rfl).trans (by rw[hr]);have f0:=HS.r.free 0;have f1:=HS.r.free 1;have f2:=HS.r.free 2;have f3:=HS.r.free 3;have f4:=HS.r.free 4;have f5:=HS.r.free 5;have f6:=HS.r.free 6;have f7:=HS.r.free 7;have f8:=HS.r.free 8;have f9:=HS.r.free 9;have f10:=HS.r.free 10;have f11:=HS.r.free 11;have eL:=HS.r.free 12;have z0:=HS.r.cell 0 _ rfl;have z1:=HS.r.cell 1 _ rfl;have z2:=HS.r.cell 2 _ rfl;have z3:=HS.r.cell 3 _ rfl;have z4:=HS.r.cell 4 _ rfl;have z5:=HS.r.cell 5 _ rfl;have z6:=HS.r.cell 6 _ rfl;have z7:=HS.r.cell 7 _ rfl;have z8:=HS.r.cell 8 _ rfl;have z9:=HS.r.cell 9 _ rfl;have c8:=HS.r.cell 10 _ rfl;have eS:=HS.r.cell 11 _ rfl;have e0:=HS.r.cell 12 _ rfl;go_wp2_with fail;change bodyPost _ _ _ _ _ (dG w2 (w.heap.size+1) (dg,none,0));replace HS:=hid (HS.put (dg,none,0));generalize dG w2 (w.heap.size+1) (dg,none,0)=w3 at HS|-;exact bodyPost_ret (v:=.tuple #[cw (dg) none 0,false]) (gq (p:=2) (u:=3) rfl _ _ _ ⟨w.heap.size+1,0,none⟩ _ rfl (run_loadVar_row _ _ _ _ _ _ _ HS.r Tryz.underlying43 rfl (by kernel_rfl))) rfl ⟨rfl,HS.bel⟩
end
section
set_option maxHeartbeats 8000000
set_option maxRecDepth 100000
open Go.RowKit Go.Shelf
theorem wv:rz.In:=⟨qB,qB,qB,qB,qB,qB⟩
theorem FatAt.nil (N:Nat)(w:World):FatAt N none [] w:=⟨by decide,(fun x h=>nomatch h),fun h=>absurd h (by decide)⟩
theorem rm:((oT.a.c.st=1/\oT.b.c.st=2/\sB.a.c.st=3/\qQ.b.c.st=3)/\iR.b.got=[97,104,111]/\iR.b.fin=true/\iR.b.c.st=8)/\lw.a.c.st=0/\lw.b.c.st=0/\lw.a.c.err=0/\lw.b.c.err=0:=by
 have h:=wJ;rw[Bool.and_eq_true,Bool.and_eq_true,Bool.and_eq_true,Bool.and_eq_true,decide_eq_true_iff,decide_eq_true_iff,decide_eq_true_iff,decide_eq_true_iff]at h;exact⟨⟨h.1.1.1.1,h.1.1.1.2,h.1.1.2,h.1.2⟩,h.2⟩
theorem ma (now:Int) (c:Cf) (s:Sg) (a:Option Addr) (cap:Nat) (w:World) (hs:s.okB=false) (hb:au w a s.bl) :
  Calls Tryz.prog 48 #[now,mf c,cw s a cap] w (wF w):=by
 have HS:=hid hs;have HA:=hid (Arg.start (c:=c) (x:=(s,a,cap)) hb);clear hs hb;unfold mf cw
 go_enter Tryz.func48,Tryz.ntmps48
 go_upto_region 1 with fail
 change Code.wp _ _ _ _ ((w.alloc (.cells #[c.fp,c.tp,c.iss,c.mss,c.room,c.keep] 52)).alloc (.cells (aW (s,a,cap)).toArray 43));generalize ((w.alloc (.cells #[c.fp,c.tp,c.iss,c.mss,c.room,c.keep] 52)).alloc (.cells (aW (s,a,cap)).toArray 43))=w1 at HA|-;have q0:=HA.row.cell 0 _ rfl;have q1:=HA.row.cell 1 _ rfl;have q2:=HA.row.cell 2 _ rfl;have q3:=HA.row.cell 3 _ rfl;have q4:=HA.row.cell 4 _ rfl;have q5:=HA.row.cell 5 _ rfl;have q6:=HA.row.cell 6 _ rfl;have q7:=HA.row.cell 7 _ rfl;have q8:=HA.row.cell 8 _ rfl;have q9:=HA.row.cell 9 _ rfl;have c5:=HA.row.cell 10 _ rfl;have c6:=HA.row.cell 11 _ rfl;have c7:=HA.row.cell 12 _ rfl;go_wp2_with fail;refine(fk s a cap _ HA.bl).mono ?_;rintro e w2⟨rfl,hb⟩;replace HA:=hid (HA.below hb);clear hb q0 q1 q2 q3 q4 q5 q6 q7 q8 q9 c5 c6 c7;rw[HS.o];go_wp2_with fail
 go_ret3
 exact⟨rfl,HA.bel⟩
theorem rn (w:World) (gl:Gl w):Calls Tryz.prog 15 #[] w fun e w'=>e= .returned true/\Below w.heap.size w w':=by
 have HG:=hid gl;have HM:=kp rz [] none 0 3 0 w wv gl (FatAt.nil _ _) (by decide) (by decide);have HP:=hid (qD rz);have A0:=hid (oH rz [] 3 0 (by decide) (by decide) (by decide));obtain⟨⟨⟨e1,e2,e3,e4⟩,e5,e6,e7⟩,e8,e9,e10,e11⟩:=rm;clear gl;have A0:=hid (show Pr.Al (ji rz) oT 0 from A0.out);have A1:=hid (show Pr.Al (ji rz) sB (0+1)from A0.out.tick (by decide) (by decide) HP.o);have A2:=hid (show Pr.Al (ji rz) qQ (0+1+1)from A1.out.tick (by decide) (by decide) HP.o);have ba:=hid (A2.out.send false 3);have A3:=hid (show Pr.Al (ji rz) sC (0+1+1+1+1)from ba.out.tick (by decide) (by decide) HP.o);have bu:=hid (A3.out.recv true (k:=9) (by decide));have bb:=hid (bu.out.shut false);have A4:=hid (show Pr.Al (ji rz) ul (0+1+1+1+1+1+1+1)from bb.out.tick (by decide) (by decide) HP.o);have bv:=hid (A4.out.recv true (k:=9) (by decide));have A5:=hid (show Pr.Al (ji rz) iR (0+1+1+1+1+1+1+1+1+1)from bv.out.shut true)
 go_enter Tryz.func15,Tryz.ntmps15
 go_wp2_with fail;refine HM.mono ?_;rintro e w1⟨t,rfl,hpa,hb⟩;have HS:=hid (show PrSt w.heap.size t w1 t oT w1 from PrSt.start hpa);have HB:=hid hb;have b9:=hid hpa;clear HM hpa hb;have zc:=HS.cell 0 _ rfl;go_wp2_with fail;refine(cp _ _ _ HS.pa.a).mono ?_;rintro e wq⟨rfl,rfl⟩;clear zc;rw[e1];have zc:=HS.cell 6 _ rfl;go_wp2_with fail;refine(cp _ _ _ HS.pa.b).mono ?_;rintro e wq⟨rfl,rfl⟩;clear zc;rw[e2];have HC:=dP _ _ _ _ _ _ HS.pa A0.out.run.1 (A0.out.bds (by decide)).1 (A0.out.bds (by decide)).2 A0.out.ml (by have:=A0.out.run.2;omega);rw[HS.eB]at HC;go_wp2_with fail;refine HC.mono ?_;rintro e wq⟨rfl,tq,kq⟩;have aF:=hid (show PrSt w.heap.size t w1 tq sB wq from HS.trans kq);clear HC HS kq;have HS:=aF;clear aF;have zc:=HS.cell 0 _ rfl;go_wp2_with fail;refine(cp _ _ _ HS.pa.a).mono ?_;rintro e wq⟨rfl,rfl⟩;clear zc;rw[e3];have HC:=dP _ _ _ _ _ _ HS.pa A1.out.run.1 (A1.out.bds (by decide)).1 (A1.out.bds (by decide)).2 A1.out.ml (by have:=A1.out.run.2;omega);rw[HS.eB]at HC;go_wp2_with fail;refine HC.mono ?_;rintro e wq⟨rfl,tq,kq⟩;have aF:=hid (show PrSt w.heap.size t w1 tq qQ wq from HS.trans kq);clear HC HS kq;have HS:=aF;clear aF;have zc:=HS.cell 6 _ rfl;go_wp2_with fail;refine(cp _ _ _ HS.pa.b).mono ?_;rintro e wq⟨rfl,rfl⟩;clear zc;rw[e4];have HC:=fm _ _ _ false 3 _ _ _ HS.pa A2.out.run.1 (A2.out.bds (by decide)).1 (A2.out.bds (by decide)).2 A2.out.ml (by decide);rw[HS.eB]at HC;go_wp2_with fail;refine HC.mono ?_;rintro e wq⟨rfl,tq,kq⟩;have aF:=hid (show PrSt w.heap.size t w1 tq (qQ.send false 3) wq from HS.trans kq);clear HC HS kq;have HS:=aF;clear aF;have HC:=dP _ _ _ _ _ _ HS.pa ba.out.run.1 (ba.out.bds (by decide)).1 (ba.out.bds (by decide)).2 ba.out.ml (by have:=ba.out.run.2;omega);rw[HS.eB]at HC;go_wp2_with fail;refine HC.mono ?_;rintro e wq⟨rfl,tq,kq⟩;have aF:=hid (show PrSt w.heap.size t w1 tq sC wq from HS.trans kq);clear HC HS kq;have HS:=aF;clear aF;have HC:=eK _ _ _ true 9 _ _ _ HS.pa A3.out.run.1 (A3.out.bds (by decide)).1 (A3.out.bds (by decide)).2 A3.out.ml (by decide) (Nat.le_trans (A3.out.got true) (by decide));rw[HS.eB]at HC;go_wp2_with fail;refine HC.mono ?_;rintro e wq⟨rfl,tq,kq⟩;have aF:=hid (show PrSt w.heap.size t w1 tq (sC.recv true 9) wq from HS.trans kq);clear HC HS kq;have HS:=aF;clear aF;have HC:=iN _ _ _ false _ _ _ HS.pa bu.out.run.1 (bu.out.bds (by decide)).1 (bu.out.bds (by decide)).2 bu.out.ml;rw[HS.eB]at HC;go_wp2_with fail;refine HC.mono ?_;rintro e wq⟨rfl,tq,kq⟩;have aF:=hid (show PrSt w.heap.size t w1 tq ((sC.recv true 9).shut false) wq from HS.trans kq);clear HC HS kq;have HS:=aF;clear aF;have HC:=dP _ _ _ _ _ _ HS.pa bb.out.run.1 (bb.out.bds (by decide)).1 (bb.out.bds (by decide)).2 bb.out.ml (by have:=bb.out.run.2;omega);rw[HS.eB]at HC;go_wp2_with fail;refine HC.mono ?_;rintro e wq⟨rfl,tq,kq⟩;have aF:=hid (show PrSt w.heap.size t w1 tq ul wq from HS.trans kq);clear HC HS kq;have HS:=aF;clear aF;have HC:=eK _ _ _ true 9 _ _ _ HS.pa A4.out.run.1 (A4.out.bds (by decide)).1 (A4.out.bds (by decide)).2 A4.out.ml (by decide) (Nat.le_trans (A4.out.got true) (by decide));rw[HS.eB]at HC;go_wp2_with fail;refine HC.mono ?_;rintro e wq⟨rfl,tq,kq⟩;have aF:=hid (show PrSt w.heap.size t w1 tq (ul.recv true 9) wq from HS.trans kq);clear HC HS kq;have HS:=aF;clear aF;have HC:=iN _ _ _ true _ _ _ HS.pa bv.out.run.1 (bv.out.bds (by decide)).1 (bv.out.bds (by decide)).2 bv.out.ml;rw[HS.eB]at HC;go_wp2_with fail;refine HC.mono ?_;rintro e wq⟨rfl,tq,kq⟩;have aF:=hid (show PrSt w.heap.size t w1 tq iR wq from HS.trans kq);clear HC HS kq;have HS:=aF;clear aF;have z9:=(HS.cell 9 (.string ⟨iR.b.got.toArray⟩) rfl).trans (show _=some (Value.string ⟨#[97,104,111]⟩) by rw[e5]);have c8:=(HS.cell 10 iR.b.fin rfl).trans (by rw[e6]);have zc:=HS.cell 6 _ rfl;go_wp2_with fail;refine(cp _ _ _ HS.pa.b).mono ?_;rintro e wq⟨rfl,rfl⟩;clear zc;rw[e7];clear z9 c8;go_wp2_with fail
 go_loopg [7] 70 (fun g iv wr=>∃(k:Nat) (tk:Ft),iv=((k:Int):Y)/\g+k=70/\PrSt w.heap.size t w1 tk (Pr.ticks k iR) wr)
 case atStart=>exact⟨0,_,rfl,by omega,HS.o⟩
 case round =>
  obtain⟨k,tk,rfl,c2,hst⟩:=hrel;clear HS;have HS:=hid hst;clear hst;have aa:=hid ((Pr.Al.ticksV HP.o k A5.out (by decide) (by omega)).2);by_cases hk:k<70
  ·have bn:=hid (kr k iR);generalize Pr.ticks k iR=pk at HS aa bn;have HC:=dP _ _ _ _ _ _ HS.pa aa.run.1 (aa.bds (by omega)).1 (aa.bds (by omega)).2 aa.ml (by have:=aa.run.2;omega);rw[HS.eB]at HC;have ds:(k:Int)<70:=by omega
   go_wp2_with fail;refine HC.mono ?_;rintro e wq⟨rfl,tq,kq⟩;have aF:=hid (HS.trans kq);clear HC HS kq;have HS:=aF;clear aF;go_wp2_with fail
   go_roundg (gk-1)
   case measure=>omega
   case rel=>exact⟨k+1,tq,by first | rfl | go_num | (have e:wrap64 ((k:Int)+1)=((k+1:Nat):Int):=(by unfold wrap64;omega);rw[e]),by omega,by rw[bn.o];exact HS.o⟩
  have hge:k=70:=by omega
  subst hge;have d6:=hid (show PrSt w.heap.size t w1 tk lw wr from HS.o);clear HS;have HS:=d6;clear d6 aa;have zc:=HS.cell 0 _ rfl;go_wp2_with fail;refine(cp _ _ _ HS.pa.a).mono ?_;rintro e wq⟨rfl,rfl⟩;clear zc;rw[e8];have zc:=HS.cell 6 _ rfl;go_wp2_with fail;refine(cp _ _ _ HS.pa.b).mono ?_;rintro e wq⟨rfl,rfl⟩;clear zc;rw[e9];have zc:=HS.cell 0 _ rfl;go_wp2_with fail;refine(nf _ _ _ HS.pa.a).mono ?_;rintro e wq⟨rfl,rfl⟩;clear zc;rw[e10];have zc:=HS.cell 6 _ rfl;go_wp2_with fail;refine(nf _ _ _ HS.pa.b).mono ?_;rintro e wq⟨rfl,rfl⟩;clear zc;rw[e11];have an:=hid (HB.trans (HS.fr.below HB.size b9.lo));clear HS HB;have HO:=rh 0 ⟨0,0,0,0,0,0⟩ wr (by decide);go_wp2_with fail;refine HO.mono ?_;rintro e wo⟨rfl,hb⟩;replace an:=hid (an.trans (hb.mono an.size));clear hb HO;have HO:=ma 0 ⟨0,0,0,0,0,0⟩ dg none 0 wo (by decide) (au.nil _ _);go_wp2_with fail;refine HO.mono ?_;rintro e wp⟨rfl,hb⟩;replace an:=hid (an.trans (hb.mono an.size));clear hb HO;have HO:=m9 ⟨1,2,0,0,false,false,true,false,0,0,false,[],[]⟩ none 0 wp ⟨by decide,fun h=>absurd h (by decide)⟩ (.inr rfl);go_wp2_with fail;refine HO.mono ?_;rintro e wr2⟨rfl,hb⟩;replace an:=hid (an.trans (hb.mono an.size));clear hb HO;dsimp only[cw,dg];go_wp2_with fail;refine(pW _).mono ?_;rintro e wq⟨rfl,rfl⟩;go_wp2_with fail;refine(uX _).mono ?_;rintro e wq⟨rfl,rfl⟩;go_wp2;go_ret;exact⟨rfl,an.alloc an.size _⟩
end
section
open Go.ChangeShapes Go.WideShapes Go.ChangeAt Go.RowKit
theorem FatAt.mono {N N':Nat}{a:Option Addr}{l:List Int}{w:World}(h:FatAt N a l w)(hN:N<=N'):FatAt N' a l w :=
 ⟨h.small,h.in64,fun hl=>by
  obtain⟨b,o,e,hb,hc⟩:=h.cells hl;exact⟨b,o,e,Nat.lt_of_lt_of_le hb hN,hc⟩⟩
theorem FatAt.of_row {w:World}{a:Option Addr}{len cap K:Nat}{zs:List Int}(h:lV .i64 w a len cap zs)(hK:K<=len)(hS:K<=1000):FatAt w.heap.size a (zs.take K) w/\(zs.take K).length=K:=by
 have hlen:K<=zs.length:=by
  rcases h with⟨-,h1,h2,h3⟩ | ⟨x,-,h1,h2,h3,-⟩ <;> omega
 have hl:(zs.take K).length=K:=by rw[List.length_take];omega
 refine⟨⟨by rw[hl];exact hS,fun x hx=> ?_,fun hp=> ?_⟩,hl⟩
 ·rcases h with⟨-,-,-,h3⟩ | ⟨y,-,-,-,-,-,h5⟩
  ·rw[h3]at hx;simp at hx
  exact bounds_i64 (h5 x (List.mem_of_mem_take hx))
 rw[hl]at hp;obtain⟨b,off,e,-,hb,hc⟩:=h.at (by omega);refine⟨b,off,e,hb,fun i hi=> ?_⟩;rw[hl]at hi;have:=(hc i (by omega)).1;rw[this,List.getElem_take,List.getD_eq_getElem?_getD,List.getElem?_eq_getElem (by omega)];rfl
theorem qF {w:World}{a:Option Addr}{len cap:Nat}{zs:List Int}(h:lV .i64 w a len cap zs):len<=cap/\cap<=maxLen:=by
 rcases h with⟨-,h1,h2,h3⟩ | ⟨x,-,h1,h2,h3,-⟩
 ·exact⟨by omega,by unfold maxLen;omega⟩
 exact⟨h1,h2⟩
theorem ro {w w':World}{a:Option Addr}{len cap:Nat}{zs:List Int}(h:lV .i64 w a len cap zs){K:Nat}(hK:K<=len)(hS:K<=1000)(hb:Below w.heap.size w w'):FatAt w'.heap.size a (zs.take K) w' :=
 (oL (FatAt.of_row h hK hS).1 hb).mono hb.size
end
section
set_option maxHeartbeats 8000000
set_option maxRecDepth 100000
open Go.ChangeShapes Go.WideShapes Go.ChangeAt Go.RowKit Go.Shelf
theorem mc (W:World) (x:Rw) (hx:x.In) (a1:Option Addr) (len1 cap1:Nat) (zs:List Int) (h1:lV .i64 W a1 len1 cap1 zs) (a2:Option Addr) (len2 cap2:Nat) (xs:Nat->Dv) (h2:j9 W W.heap.size a2 len2 xs) (gl:Gl W) :
  Calls Tryz.prog 3 #[.agg (jc x).toArray,.slice a1 len1 cap1,.slice a2 len2 cap2] W fun e W'=>e= .returned true/\Below W.heap.size W W':=by
 obtain⟨K,hK⟩:∃K:Nat,min (len1:Int) 100=(K:Int):=⟨min len1 100,by omega⟩;have c9:K<=len1:=by omega
 have ev:K<=cap1:=Nat.le_trans c9 (qF h1).1;have ey:(K:Int)<=(cap1:Int):=by omega
 have hcm:=(qF h1).2;have av:K<=1000:=by omega
 have ea:=hid hK;clear hK;have d7:=hid (FatAt.of_row h1 c9 av).2;have ca:=hid h1;clear h1;have HX:=hid hx;have HG:=hid gl;have HD:=hid h2;clear h2;clear hx gl;have HR:=hid (RowB.new W 23 (jc x));have HB:=hid ((Below.refl W.heap.size W).alloc (Nat.le_refl _) (.cells (jc x).toArray 23))
 go_enter Tryz.func3,Tryz.ntmps3
 go_upto_region 1 with fail
 change Code.wp _ _ _ _ (W.alloc (.cells (jc x).toArray 23));obtain⟨W0,hW0⟩:∃W0,W0=W.heap.size:=⟨_,rfl⟩;rw[<-hW0]at HR|-;clear hW0;generalize W.alloc (.cells (jc x).toArray 23)=w1 at HR HB|-;go_wp2_with fail;refine(rn _ (HG.below (HB.mono HG.top))).mono ?_;rintro e w2⟨rfl,hb⟩;replace HR:=hid (HR.below hb);replace HB:=hid (HB.trans (hb.mono HB.size));clear hb
 go_upto_region 2 with fail
 refine bC (fun W':World=>RowB W0 23 (jc x) W') (HR.o) fun hZ=>?_;replace HR:=hid (HR.below (Below.refl _ _).drew);replace HB:=hid HB.drew;generalize w2.drew=w3 at HR HB hZ|-;have d8:=hid (show Calls Tryz.prog 16 #[.agg #[x.issA,x.issB,x.mss,x.roomA,x.roomB,x.keep],.slice a1 K cap1,(600:Int),(400:Int)] w3 (uV x (zs.take K) 600 400 w3)from by have:=kp x (zs.take K) a1 cap1 600 400 w3 HX.o (HG.below (HB.mono HG.top)) (ro ca.o c9 av HB.o) (by decide) (by decide);rw[d7.o]at this;exact this);refine qP 0 (jc x) (fun _ h=>RowB.range h) Tryz.underlying23 (by kernel_rfl) ?_ (ha:=by((try simp only[Act.put,List.setIfInBounds_toArray,List.set_cons_zero,List.set_cons_succ,jc]);(try rfl)));refine aK 1 2 ?_;refine aO 3 ?_;refine aO 4 (v:=.int .i64 (K:Int)) ?_ (hy:=by intro w hSw;(try dsimp only at hSw);go_simp;(rw[ea.o]));refine aO 5 ?_;refine aX 6 fun Kq hKq=> ?_;go_simp;refine(d8.o).mono ?_;rintro e w4⟨t,rfl,hpa,hb⟩;replace HR:=hid (HR.below hb);have ab:=hid hpa;have eb:=hid HB.size;replace HB:=hid (HB.trans (hb.mono HB.size));clear hb hpa;go_simp;refine hKq.out _ _ (HR.o) ?_;clear hKq Kq hZ;refine fun hZ=>aT ?_;refine aB 7 8 9 10 ?_;refine aO 11 ?_;refine az ?_ _;clear hZ d8;obtain⟨K2,hK2⟩:∃K2,K2=min len2 30:=⟨_,rfl⟩;have hl2:len2<=maxLen:=HD.1;have ec:=hid (oH x (zs.take K) 600 400 (by rw[d7.o];exact av) (by decide) (by decide));have HP:=hid (qD x);have cb:=hid (PrSt.start ab.o);go_wp2_with fail
 go_loopg [10] K2 (fun g iv wr=>∃(k:Nat) (tk:Ft) (p:Pr),iv=((k:Int):Y)/\g+k=K2/\PrSt w3.heap.size t w4 tk p wr/\Pr.Al (ji x) p (21*(k:Int)))
 case atStart=>exact⟨0,t,_,rfl,by omega,cb.o,ec.o⟩
 case round =>
  obtain⟨k,tk,p,rfl,c2,hst,hal⟩:=hrel;have HS:=hid hst;have HA:=hid hal;have cf:=hid (HB.trans (hst.fr.below HB.size (fun kk hkk=>Nat.le_trans eb.o (ab.lo kk hkk))));clear hst hal;by_cases hk:k<K2
  ·have hk2:(k:Int)<(len2:Int):=by omega
   have cg:(k:Int)<30:=by omega
   obtain⟨b,off,rfl,hblt,hcs⟩:=(HD.below cf.o).2 (by omega);obtain⟨⟨d0,d1,d2,d3⟩,hin⟩:=hcs k (by omega);clear hcs;have ch:=vn w3.heap.size tk (ji x) p (21*(k:Int)) (xs k) wr HS.pa HA.o HP.o (by omega) (by omega) hin;rw[HS.eB]at ch;go_wp2_with fail;refine ch.mono ?_;rintro e w5⟨rfl,t5,k5⟩;have eg:=hid (HS.trans k5);clear ch k5;have ei:=hid ((HA.doD HP.o (xs k) (by omega) (by omega)).2);clear d0 d1 d2 d3;go_wp2_with fail
   go_roundg (gk-1)
   case measure=>omega
   case rel=>exact⟨k+1,t5,_,by first | rfl | go_num | (have e:wrap64 ((k:Int)+1)=((k+1:Nat):Int):=(by unfold wrap64;omega);rw[e]),by omega,eg.o,by have h:=ei.o;rw[show 21*(k:Int)+21=21*((k+1:Nat):Int) by omega]at h;exact h⟩
  have hge:k=K2:=by omega
  by_cases hk2:(k:Int)<(len2:Int)
  ·have cg:¬(k:Int)<30:=by omega
   go_wp2;go_ret;exact⟨rfl,cf.o⟩
  go_wp2;go_ret;exact⟨rfl,cf.o⟩
end
end Go.Proofs.YtclkcmidhhfdmaaGreatDoor
