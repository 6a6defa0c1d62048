import Derived.Test.YtclkcmidhhfdmaaGreatDoorUb36
import Derived.Test.YtclkcmidhhfdmaaGreatDoorTcOqU
import Derived.Test.YtclkcmidhhfdmaaGreatDoorTcBlpU
import Derived.Deep.CutBlock
import Derived.Deep.DeepCutAuto
namespace Go.Proofs.YtclkcmidhhfdmaaGreatDoor
open Lib (hid)
set_option maxHeartbeats 8000000
set_option maxRecDepth 100000
open Go.ChangeShapes Go.WideShapes Go.ChangeAt Go.RowKit Go.Shelf
theorem RowB.low {B N:Nat}{ty:TypeId}{cs:List Value}{W W':World}(h:RowB B ty cs W)(hb:Below N W W')(hB:B<N):RowB B ty cs W':=(hb.block B hB).trans h
theorem Bo (w:World):bA w none []:=⟨⟨by decide,fun h=>absurd h (by decide)⟩,fun h=>absurd h (by decide)⟩
theorem Bh (l:List UInt8)(k:Nat):(⟨l.toArray⟩:ByteArray).extract 0 k=⟨(l.take k).toArray⟩:=by
 have h:((⟨l.toArray⟩:ByteArray).extract 0 k).data.toList=l.take k:=by simp
 revert h
 generalize (⟨l.toArray⟩:ByteArray).extract 0 k=S;intro h
 cases S with
 | mk d=>rw[<-h]
theorem Bi {y:Sg}{fp tp fr t:Int}(h:y.has=true):aU ((B8 y fp tp fr t,none,0):cA)=(aU (({ y with s:=y.s.take 60,bl:=[],fp:=fp,tp:=tp,sq:=uG fr (1000000000+aR y.sq 2000000000) },none,0):cA)).set 3 (.int .i64 (uG t (1000000000+aR y.ak 2000000000))):=by unfold B8;rw[if_pos h];rfl
theorem Bj {y:Sg}{fp tp fr t:Int}(h:y.has=false):aU ((B8 y fp tp fr t,none,0):cA)=aU (({ y with s:=y.s.take 60,bl:=[],fp:=fp,tp:=tp,sq:=uG fr (1000000000+aR y.sq 2000000000) },none,0):cA):=by unfold B8;rw[if_neg (by rw[h];decide)]
theorem cB.one {w:World}{base:Nat}{v:Value}{x:cA}(h:cB w base v [x]):∃g cap,v= .slice (some ⟨g,0,none⟩) 1 cap/\w.rangeAt g 0 (aU x):=by
 obtain⟨g,cap,hv,-,-,-,hc⟩:=h.cells (Nat.succ_pos 0);refine⟨g,cap,hv,fun j u hj=> ?_⟩;have:=hc j u (by simpa[eD]using hj)
 rwa [Addr.add_lit]at this
theorem aJ.one {w:World}{base:Nat}{v:Value}{s:Sg}(h:aJ w base v [s]):∃g cap a c,v= .slice (some ⟨g,0,none⟩) 1 cap/\w.rangeAt g 0 (aU (s,a,c)):=by
 obtain⟨M,e,hM⟩:=h
 rcases M with _ | ⟨⟨s',a,c⟩,_ | ⟨y,M⟩⟩
 ·cases e
 ·have e1:s'=s:=(List.cons.inj e).1;subst e1;obtain⟨g,cap,hv,hr⟩:=cB.one hM;exact⟨g,cap,a,c,hv,hr⟩
 have:=(List.cons.inj e).2
 cases this
theorem aJ.none {w:World}{base:Nat}{v:Value}(h:aJ w base v []):∃a cap,v= .slice a 0 cap:=by
 obtain⟨M,e,hM⟩:=h;obtain rfl:M=[]:=by simpa using e
 obtain⟨a,cap,hv,-⟩:=hM.val;exact⟨a,cap,hv⟩
theorem CA:aG 2000000000:=by unfold aG;decide
theorem Bc (n:Int):aG (bY n):=by have:=iW n;unfold aG;omega
theorem Bv (a b:Int):aG (uG a b):=by have:=BF a b;unfold aG;omega
theorem B7 (W:World) (x:Rw) (hx:x.In) (a1:Option Addr) (len1 cap1:Nat) (zs:List Int) (h1:mq .i64 W a1 len1 cap1 zs) (a2:Option Addr) (len2 cap2:Nat) (xs:Nat->Dv) (h2:kZ W W.heap.size a2 len2 xs) (a3:Option Addr) (len3 cap3:Nat) (ys:Nat->cA) (h3:rL W W.heap.size a3 len3 ys) (gl:Gl W) :
  Calls Tryz.prog 11 #[.agg (kf x).toArray,.slice a1 len1 cap1,.slice a2 len2 cap2,.slice a3 len3 cap3] W fun e W'=>e= .returned (.bool true)/\Below W.heap.size W W':=by
 obtain⟨K,hK⟩:∃K:Nat,min (len1:Int) 100=(K:Int):=⟨min len1 100,by omega⟩;have c5:K<=len1:=by omega
 have eS:K<=cap1:=Nat.le_trans c5 (rz h1).1;have e0:(K:Int)<=(cap1:Int):=by omega
 have hcm:=(rz h1).2;have av:K<=1000:=by omega
 have d9:=hid hK;clear hK;have da:=hid (FatAt.of_row h1 c5 av).2;have c6:=hid h1;clear h1;have HX:=hid hx;have HG:=hid gl;have HD:=hid h2;have HE:=hid h3;clear h2 h3;clear hx gl;have HR:=hid (RowB.new W 23 (kf x));have HB:=hid ((Below.refl W.heap.size W).alloc (Nat.le_refl _) (.cells (kf x).toArray 23))
 go_enter Tryz.func11,Tryz.ntmps11
 go_upto_region 1 with fail
 change Code.wp _ _ _ _ (W.alloc (.cells (kf x).toArray 23));obtain⟨W0,hW0⟩:∃W0,W0=W.heap.size:=⟨_,rfl⟩;rw[<-hW0]at HR|-;clear hW0;generalize W.alloc (.cells (kf x).toArray 23)=w1 at HR HB|-;go_wp2_with fail;refine(uB _ (HG.below (HB.mono HG.top))).mono ?_;rintro e w2⟨rfl,hb⟩;replace HR:=hid (HR.below hb);replace HB:=hid (HB.trans (hb.mono HB.size));clear hb;have HK:=hid (rt x);have r0:=HR.cell 0 _ rfl;have r1:=HR.cell 1 _ rfl;have r2:=HR.cell 2 _ rfl;have r3:=HR.cell 3 _ rfl;have r4:=HR.cell 4 _ rfl;have r5:=HR.cell 5 _ rfl;go_wp2_with fail;refine(na x _ HX.o).mono ?_;rintro e w2b⟨rfl,hb⟩;clear r0 r1 r2 r3 r4 r5;replace HB:=hid (HB.trans (hb.mono HB.size));replace HR:=hid (HR.below hb);clear hb;dsimp only[oP]
 go_upto_region 3 with fail
 change Code.wp _ _ _ _ ((w2b.alloc (.cells (qM (df x)).toArray 52)).alloc (.cells (qM (dC x)).toArray 52));have HT:=hid (ym w2b 52 (qM (df x)) (qM (dC x)));replace HB:=hid (HB.trans (HT.2.2.mono HB.size));replace HR:=hid (HR.below HT.2.2);obtain⟨NA,hNA⟩:∃NA,NA=w2b.heap.size:=⟨_,rfl⟩;rw[<-hNA]at HT|-;clear hNA;generalize (w2b.alloc (.cells (qM (df x)).toArray 52)).alloc (.cells (qM (dC x)).toArray 52)=ds at HB HT HR|-;have bx:=hid HT.1;have b0:=hid HT.2.1;clear HT;refine bJ (fun W':World=>RowB W0 23 (kf x) W') (HR.o) fun hZ=>?_;replace HR:=hid (HR.below (Below.refl _ _).drew);replace HB:=hid HB.drew;replace bx:=hid (bx.below (Below.refl _ _).drew);replace b0:=hid (b0.below (Below.refl _ _).drew);generalize ds.drew=w3 at HR HB hZ bx b0|-;have dc:=hid (show NA+1<w3.heap.size from b0.lt);have dk:=hid (show Calls Tryz.prog 16 #[.agg #[.int .i64 x.issA,.int .i64 x.issB,.int .i64 x.mss,.int .i64 x.roomA,.int .i64 x.roomB,.int .i64 x.keep],.slice a1 K cap1,.int .i64 600,.int .i64 600] w3 (ws x (zs.take K) 600 600 w3)from by have:=mI x (zs.take K) a1 cap1 600 600 w3 HX.o (HG.below (HB.mono HG.top)) (uC c6.o c5 av HB.o) (by decide) (by decide);rw[da.o]at this;exact this);refine sU 0 (kf x) (fun _ h=>RowB.range h) Tryz.underlying23 (by kernel_rfl) ?_ (ha:=by((try simp only[Act.put,List.setIfInBounds_toArray,List.set_cons_zero,List.set_cons_succ,kf]);(try rfl)));refine wpAnyH_take (i:=1) (v:= ?_) (by simp only[List.getElem?_toArray,List.getElem?_cons_succ,List.getElem?_cons_zero];rfl) (by kernel_rfl) (by kernel_rfl) (by kernel_rfl) (by exact fun _ _ _ h=>h) (Or.inl ⟨by rfl,?_⟩) (by assumption) ?_;rotate_left 1
 ·intro w hSw;(try dsimp only at hSw);go_simp;(try with_reducible rfl)
 (try simp only[Act.put,List.setIfInBounds_toArray,List.set_cons_zero,List.set_cons_succ])
 refine wpAnyH_take (i:=2) (v:= ?_) (by simp only[List.getElem?_toArray,List.getElem?_cons_succ,List.getElem?_cons_zero];rfl) (by kernel_rfl) (by kernel_rfl) (by kernel_rfl) (by exact fun _ _ _ h=>h) (Or.inl ⟨by rfl,?_⟩) (by assumption) ?_;rotate_left 1
 ·intro w hSw;(try dsimp only at hSw);go_simp;(try with_reducible rfl)
 (try simp only[Act.put,List.setIfInBounds_toArray,List.set_cons_zero,List.set_cons_succ])
 refine wpAnyH_take (i:=3) (v:= ?_) (by simp only[List.getElem?_toArray,List.getElem?_cons_succ,List.getElem?_cons_zero];rfl) (by kernel_rfl) (by kernel_rfl) (by kernel_rfl) (by exact fun _ _ _ h=>h) (Or.inl ⟨by rfl,?_⟩) (by assumption) ?_;rotate_left 1
 ·intro w hSw;(try dsimp only at hSw);go_simp;(try with_reducible rfl)
 (try simp only[Act.put,List.setIfInBounds_toArray,List.set_cons_zero,List.set_cons_succ])
 refine wpAnyH_take (i:=4) (v:=.int .i64 (K:Int)) (by simp only[List.getElem?_toArray,List.getElem?_cons_succ,List.getElem?_cons_zero];rfl) (by kernel_rfl) (by kernel_rfl) (by kernel_rfl) (by exact fun _ _ _ h=>h) (Or.inl ⟨by rfl,?_⟩) (by assumption) ?_
 ·intro w hSw;(try dsimp only at hSw);go_simp;(rw[d9.o])
 (try simp only[Act.put,List.setIfInBounds_toArray,List.set_cons_zero,List.set_cons_succ])
 refine wpAnyH_take (i:=5) (v:= ?_) (by simp only[List.getElem?_toArray,List.getElem?_cons_succ,List.getElem?_cons_zero];rfl) (by kernel_rfl) (by kernel_rfl) (by kernel_rfl) (by exact fun _ _ _ h=>h) (Or.inl ⟨by rfl,?_⟩) (by assumption) ?_;rotate_left 1
 ·intro w hSw;(try dsimp only at hSw);go_simp;(try with_reducible rfl)
 (try simp only[Act.put,List.setIfInBounds_toArray,List.set_cons_zero,List.set_cons_succ])
 refine wpAnyH_ready (rs:=[6]) (by kernel_rfl) (by simp) ?_;refine AllReadyH.cons (by simp only[List.getElem?_toArray,List.getElem?_cons_succ,List.getElem?_cons_zero];rfl) (fun Kq hKq=> ?_) AllReadyH.nil;go_simp;refine(dk.o).mono ?_;rintro e w4⟨t,rfl,hpa,hb⟩;replace bx:=hid (bx.below hb);replace b0:=hid (b0.below hb);replace HR:=hid (HR.below hb);have cC:=hid hpa;have dl:=hid HB.size;replace HB:=hid (HB.trans (hb.mono HB.size));clear hb hpa;go_simp;refine hKq.out _ _ (HR.o) (fun a4=> ?_);clear hKq Kq hZ
 (try simp only[Act.put,List.setIfInBounds_toArray,List.set_cons_zero,List.set_cons_succ])
 have hZ:=a4;clear a4;refine wpAnyH_take (i:=7) (v:= ?_) (by simp only[List.getElem?_toArray,List.getElem?_cons_succ,List.getElem?_cons_zero];rfl) (by kernel_rfl) (by kernel_rfl) (by kernel_rfl) (by exact fun _ _ _ h=>h) (Or.inl ⟨by rfl,?_⟩) (by assumption) ?_;rotate_left 1
 ·intro w hSw;(try dsimp only at hSw);go_simp;(try with_reducible rfl)
 (try simp only[Act.put,List.setIfInBounds_toArray,List.set_cons_zero,List.set_cons_succ])
 refine wpAnyH_take (i:=8) (v:= ?_) (by simp only[List.getElem?_toArray,List.getElem?_cons_succ,List.getElem?_cons_zero];rfl) (by kernel_rfl) (by kernel_rfl) (by kernel_rfl) (by exact fun _ _ _ h=>h) (Or.inl ⟨by rfl,?_⟩) (by assumption) ?_;rotate_left 1
 ·intro w hSw;(try dsimp only at hSw);go_simp;(try with_reducible rfl)
 (try simp only[Act.put,List.setIfInBounds_toArray,List.set_cons_zero,List.set_cons_succ])
 refine wpAnyH_take (i:=9) (v:= ?_) (by simp only[List.getElem?_toArray,List.getElem?_cons_succ,List.getElem?_cons_zero];rfl) (by kernel_rfl) (by kernel_rfl) (by kernel_rfl) (by exact fun _ _ _ h=>h) (Or.inl ⟨by rfl,?_⟩) (by assumption) ?_;rotate_left 1
 ·intro w hSw;(try dsimp only at hSw);go_simp;(try with_reducible rfl)
 (try simp only[Act.put,List.setIfInBounds_toArray,List.set_cons_zero,List.set_cons_succ])
 refine wpAnyH_take (i:=10) (v:= ?_) (by simp only[List.getElem?_toArray,List.getElem?_cons_succ,List.getElem?_cons_zero];rfl) (by kernel_rfl) (by kernel_rfl) (by kernel_rfl) (by exact fun _ _ _ h=>h) (Or.inl ⟨by rfl,?_⟩) (by assumption) ?_;rotate_left 1
 ·intro w hSw;(try dsimp only at hSw);go_simp;(try with_reducible rfl)
 (try simp only[Act.put,List.setIfInBounds_toArray,List.set_cons_zero,List.set_cons_succ])
 refine wpAnyH_take (i:=11) (v:= ?_) (by simp only[List.getElem?_toArray,List.getElem?_cons_succ,List.getElem?_cons_zero];rfl) (by kernel_rfl) (by kernel_rfl) (by kernel_rfl) (by exact fun _ _ _ h=>h) (Or.inl ⟨by rfl,?_⟩) (by assumption) ?_;rotate_left 1
 ·intro w hSw;(try dsimp only at hSw);go_simp;(try with_reducible rfl)
 (try simp only[Act.put,List.setIfInBounds_toArray,List.set_cons_zero,List.set_cons_succ])
 refine bE ?_ _;clear hZ dk;obtain⟨K2,hK2⟩:∃K2,K2=min len2 15:=⟨_,rfl⟩;have hl2:len2<=maxLen:=HD.1;have e2:len3<=maxLen:=HE.1;have a7:=hid (Pr.BlK.start x (zs.take K) (by have:=d9.o;rw[da.o];omega));have c7:=hid (PrSt.start cC.o)
 go_upto_block 0 with fail
 go_wp2_with fail
 go_loopg [14] K2 (fun g iv wr=>∃(k:Nat) (tk:Ft) (p:Pr),iv= .int .i64 (k:Int)/\g+k=K2/\PrSt w3.heap.size t w4 tk p wr/\Pr.BlK x p (23*(k:Int)))
 case atStart=>exact⟨0,t,_,rfl,by omega,c7.o,a7.o⟩
 case round =>
  obtain⟨k,tk,p,rfl,e3,hst,hbk⟩:=hrel;have HS:=hid hst;have HK:=hid hbk;have ax:=hid (HB.trans ((hst.fr.below cC.big cC.lo).mono dl.o));clear hst hbk;by_cases hk:k<K2
  ·have hk2:(k:Int)<(len2:Int):=by omega
   have c8:(k:Int)<15:=by omega
   obtain⟨b,off,rfl,hblt,hcs⟩:=(HD.below ax.o).2 (by omega);obtain⟨⟨d0,d1,d2,d3⟩,hin⟩:=hcs k (by omega);clear hcs;have c9:=yp w3.heap.size tk (fm x) p (23*(k:Int)) (xs k) wr HS.pa HK.al (rx x) (by omega) (by omega) hin;rw[HS.eB]at c9;go_wp2_with fail;refine c9.mono ?_;rintro e w5⟨rfl,t5,k5⟩;have ca:=hid (HS.trans k5);have cb:=hid (HK.doD (by omega) (by omega) (xs k));clear c9 k5 d0 d1 d2 d3;obtain⟨p5,hp5⟩:∃p5,p5=(p.doD (xs k)).1:=⟨_,rfl⟩;rw[<-hp5]at ca cb;clear hp5;go_wp2_with fail
   go_loopg [15] 2 (fun g iv wr=>∃(s:Nat) (tk:Ft) (p:Pr),iv= .int .i64 (s:Int)/\g+s=2/\PrSt w3.heap.size t w4 tk p wr/\Pr.BlK x p (23*(k:Int)+21+(s:Int)))
   case atStart=>exact⟨0,t5,p5,rfl,rfl,ca.o,cb.mono (by omega)⟩
   case round =>
    clear HS HK ax ca cb;obtain⟨s,tk,p,rfl,e4,hst,hbk⟩:=hrel;have HS:=hid hst;have HK:=hid hbk;have hbl:=hst.fr.below cC.big cC.lo;have ax:=hid (HB.trans (hbl.mono dl.o));have b8:=hid (bx.low hbl (by have:=dc.o;omega));have b9:=hid (b0.low hbl (by have:=dc.o;omega));clear hst hbk hbl;by_cases hs:s<2
    ·by_cases he:0<len3
     ·have hs1:(s:Int)<2:=by omega
      have eC:0<(len3:Int):=by omega
      obtain⟨r,hr⟩:∃r,r=k%len3:=⟨_,rfl⟩;have hrl:r<len3:=by rw[hr];exact Nat.mod_lt _ he
      have cF:((k:Int).tmod (len3:Int))=(r:Int):=by rw[hr,Int.tmod_eq_emod_of_nonneg (by omega)];omega
      have e5:(r:Int)<(len3:Int):=by omega
      obtain⟨b3,ba,rfl,hb3,hcs⟩:=(HE.below ax.o).2 he;obtain⟨cL,dn⟩:=hcs r hrl;have bb:=hid dn;have cf:=hid (show wr.rangeAt b3 (ba+r*13) (aU (ys r))from fun j u hj=>cL j (by have:=(List.getElem?_eq_some_iff.1 hj).1;simp[aU]at this;omega) u hj);clear hcs cL dn;obtain⟨y,hy⟩:∃y,y=ys r:=⟨_,rfl⟩;rw[<-hy]at bb cf;clear hy;obtain⟨y,ya,yc⟩:=y;clear hr;obtain rfl | rfl:s=0\/s=1:=by omega
      ·have q0:wr.cell? ⟨t.B,0,none⟩=some (.pointer (some ⟨tk.fa.C,0,none⟩)):=by have:=HS.cell 0 _ rfl;exact this
       go_upto_region 16 with(refine wpList_load_mid rfl 43 _ rfl b3 (ba+r*13) rfl (aU (y,ya,yc)) _ cf.o Tryz.underlying43 rfl jk ?_;(try dsimp only[aU]))
       clear q0 cF;change Code.wp _ _ _ _ (wr.alloc (.cells (aU (y,ya,yc)).toArray 43));have cM:=(Below.refl wr.heap.size wr).alloc (Nat.le_refl _) (.cells (aU (y,ya,yc)).toArray 43);have HY:=hid (RowB.new wr 43 (aU (y,ya,yc)));obtain⟨F,hF⟩:∃F,F=wr.heap.size:=⟨_,rfl⟩;have a9:=hid (show wr.heap.size<=F from Nat.le_of_eq hF.symm);rw[<-hF]at HY|-;clear hF;have a0:=hid cM;clear cM;generalize wr.alloc (.cells (aU (y,ya,yc)).toArray 43)=w6 at HY a0|-;have cg:y.s.length<=maxLen:=bb.len;have hsz:(⟨y.s.toArray⟩:ByteArray).size=y.s.length:=by show y.s.toArray.size=_;simp
       obtain⟨k6,hk6⟩:∃k6:Nat,min (y.s.length:Int) 60=(k6:Int):=⟨min y.s.length 60,by omega⟩;have bc:k6<=y.s.length:=by omega
       have cS:y.s.take k6=y.s.take 60:=by rcases(show k6=60\/(k6=y.s.length/\y.s.length<=60) by omega)with h | ⟨h,h'⟩;rw[h];rw[h,List.take_length,List.take_of_length_le h']
       have cT:=hid cS;clear cS;have ch:=HY.cell 12 (.string ⟨y.s.toArray⟩) rfl;have y0:=HY.cell 0 _ rfl;have y1:=HY.cell 1 _ rfl;have cl:=HY.cell 11 _ rfl;have f0:=HY.free 0;have f1:=HY.free 1;have f11:=HY.free 11;have cn:=HY.free 12
       go_upto_region 20 with fail
       change Code.wp _ _ _ _ ((((w6.setCell ⟨F,12,none⟩ (.string ((⟨y.s.toArray⟩:ByteArray).extract 0 k6))).setCell ⟨F,11,none⟩ (.slice none 0 0)).setCell ⟨F,0,none⟩ (.int .i64 80)).setCell ⟨F,1,none⟩ (.int .i64 5000));clear y0 y1 cl ch f0 f1 f11 cn cg hsz hk6 bc;have HZ:=hid (show RowB F 43 (aU (({ y with s:=y.s.take 60,bl:=[],fp:=80,tp:=5000 },none,0):cA)) ((((w6.setCell ⟨F,12,none⟩ (.string ((⟨y.s.toArray⟩:ByteArray).extract 0 k6))).setCell ⟨F,11,none⟩ (.slice none 0 0)).setCell ⟨F,0,none⟩ (.int .i64 80)).setCell ⟨F,1,none⟩ (.int .i64 5000))from by have h:=(((HY.set 12 (.string ((⟨y.s.toArray⟩:ByteArray).extract 0 k6))).set 11 (.slice none 0 0)).set 0 (.int .i64 80)).set 1 (.int .i64 5000);rw[Bh,cT.o]at h|-;exact h);replace a0:=hid ((((a0.setCell (p:=⟨F,12,none⟩) a9.o (.string ((⟨y.s.toArray⟩:ByteArray).extract 0 k6))).setCell (p:=⟨F,11,none⟩) a9.o (.slice none 0 0)).setCell (p:=⟨F,0,none⟩) a9.o (.int .i64 80)).setCell (p:=⟨F,1,none⟩) a9.o (.int .i64 5000));clear HY cT;generalize ((((w6.setCell ⟨F,12,none⟩ (.string ((⟨y.s.toArray⟩:ByteArray).extract 0 k6))).setCell ⟨F,11,none⟩ (.slice none 0 0)).setCell ⟨F,0,none⟩ (.int .i64 80)).setCell ⟨F,1,none⟩ (.int .i64 5000))=w7 at HZ a0|-;have n2:=(b9.below a0.o).cell 2 (.int .i64 (dC x).iss) rfl;have m2:=(b8.below a0.o).cell 2 (.int .i64 (df x).iss) rfl;have cX:=hid (show aG (dC x).iss/\aG (df x).iss from⟨Bc _,Bc _⟩);have am:=hid (And.intro bb.sq bb.ak);replace am:Hid (aG y.sq/\aG y.ak):=am;obtain⟨q1,hq1⟩:∃q1,q1=aR y.sq 2000000000:=⟨_,rfl⟩;obtain⟨q2,hq2⟩:∃q2,q2=aR y.ak 2000000000:=⟨_,rfl⟩;have hp1:=ai y.sq 2000000000 (by decide);have hp2:=ai y.ak 2000000000 (by decide);rw[<-hq1]at hp1;rw[<-hq2]at hp2;have bd:=hid hq1;have cY:=hid hq2;clear hq1 hq2;obtain⟨p1,p2⟩:=hp1;obtain⟨p3,p4⟩:=hp2;have y2:=HZ.cell 2 (.int .i64 y.sq) rfl;have f2:=HZ.free 2;obtain⟨hv,hhv⟩:∃hv,hv=y.has:=⟨_,rfl⟩;have y7:=HZ.cell 7 (.bool y.has) rfl;rw[<-hhv]at y7;have be:=hid hhv;clear hhv;go_wp2_with fail;refine(bH y.sq 2000000000 _ am.1 (by decide) (by decide)).mono ?_;rintro e wx⟨rfl,rfl⟩;rw[<-bd.o];go_wp2_with fail;refine(Ar (dC x).iss (1000000000+q1) _ cX.1 (by unfold aG;omega)).mono ?_;rintro e wx⟨rfl,rfl⟩;obtain⟨sq',hsq'⟩:∃sq',sq'=uG (dC x).iss (1000000000+q1):=⟨_,rfl⟩;rw[<-hsq'];have ad:=hid hsq';clear hsq'
       go_upto_if 117 with fail
       change Code.wp _ _ _ _ (w7.setCell ⟨F,2,none⟩ (.int .i64 sq'));clear y2 f2;replace HZ:=hid (show RowB F 43 (aU (({ y with s:=y.s.take 60,bl:=[],fp:=80,tp:=5000,sq:=uG (dC x).iss (1000000000+aR y.sq 2000000000) },none,0):cA)) (w7.setCell ⟨F,2,none⟩ (.int .i64 sq'))from by have h:=HZ.set 2 (.int .i64 sq');rw[ad.o,bd.o]at h|-;exact h);replace a0:=hid (a0.setCell (p:=⟨F,2,none⟩) a9.o (.int .i64 sq'));clear ad p1 p2 bd;replace y7:(w7.setCell ⟨F,2,none⟩ (.int .i64 sq')).cell? ⟨F,7,none⟩=some (.bool hv):=(HZ.cell 7 (.bool y.has) rfl).trans (by rw[be.o]);generalize (w7.setCell ⟨F,2,none⟩ (.int .i64 sq'))=w8 at HZ a0 y7|-
       go_cut [19]from 118 to 124 (fun _ wx=>RowB F 43 (aU (((B8 y 80 5000 (dC x).iss (df x).iss),none,0):cA)) wx/\Below wr.heap.size wr wx)
       case first =>
        rcases hv
        ·have HT:=hid (show y.has=false from be.symm);go_wp2_with fail
         go_meet
         case rel=>exact⟨by rw[Bj HT.o];exact HZ.o,a0.o⟩
        have HT:=hid (show y.has=true from be.symm);have y3:=HZ.cell 3 (.int .i64 y.ak) rfl;have f3:=HZ.free 3;go_wp2_with fail;refine(bH y.ak 2000000000 _ am.2 (by decide) (by decide)).mono ?_;rintro e wx⟨rfl,rfl⟩;rw[<-cY.o];go_wp2_with fail;refine(Ar (df x).iss (1000000000+q2) _ cX.2 (by unfold aG;omega)).mono ?_;rintro e wx⟨rfl,rfl⟩;obtain⟨ak',hak'⟩:∃ak',ak'=uG (df x).iss (1000000000+q2):=⟨_,rfl⟩;rw[<-hak'];have dI:=hid hak';clear hak';go_wp2_with fail
        go_meet
        case rel=>exact⟨by have h:=HZ.set 3 (.int .i64 ak');rw[Bi HT.o,<-cY.o,<-dI.o];exact h,a0.setCell (p:=⟨F,3,none⟩) a9.o (.int .i64 ak')⟩
       case rest =>
        obtain⟨hz1,hz2⟩:=hcut;clear HZ a0 y7;have HZ:=hid hz1;have a0:=hid hz2;clear hz1 hz2;obtain⟨z,hz⟩:∃z,z=(B8 y 80 5000 (dC x).iss (df x).iss):=⟨_,rfl⟩;rw[<-hz]at HZ;have dT:=hid (show z.bl=[]from by rw[hz];rfl);have d4:=hid hz;clear hz;have aF:=hid (HS.bel a0.o);have an:=hid HK.al.run.1.a.c;have bn:=hid HK.al.run.1.in64;go_wp2_with fail;refine(dJ tk.fa p.a.c _ aF.pa.a).mono ?_;rintro e wx⟨rfl,rfl⟩;go_wp2_with fail;refine(xk tk.fa p.a.c _ aF.pa.a an.o).mono ?_;rintro e w9⟨rfl,hb⟩;replace aF:=hid (aF.bel hb);replace HZ:=hid (HZ.below hb);replace a0:=hid (a0.trans (hb.mono a0.size));clear hb;go_wp2_with fail;refine(qq tk.fa p.a.c _ aF.pa.a (by have h1:=an.hlen;omega) (by have h1:=an.cfr;omega)).mono ?_;rintro e d5⟨rfl,hb⟩;replace aF:=hid (aF.bel hb);replace HZ:=hid (HZ.below hb);replace a0:=hid (a0.trans (hb.mono a0.size));clear hb;go_wp2_with fail;refine(pT tk.fa p.a.c _ aF.pa.a).mono ?_;rintro e wx⟨rfl,rfl⟩;by_cases h3:p.a.c.st<3
        ·go_wp2_with fail
         go_roundg (gk-1)
         case measure=>omega
         case rel=>exact⟨1,tk,p,by first | rfl | go_num | omega,by omega,aF.o,HK.mono (by omega)⟩
        have h3':3<=p.a.c.st:=by omega
        have a7:=hid (show Pr.BlK x (p.bldB false z) (23*(k:Int)+21+0+1)/\Bld p.a.c (p.a.c.recvB p.now z).1 (p.a.c.recvB p.now z).2 from by rw[d4.o];exact HK.bldB false h3' y 80 5000);obtain⟨d,hd⟩:∃d,d=(p.a.c.recvB p.now z).1:=⟨_,rfl⟩;obtain⟨l,hl⟩:∃l,l=(p.a.c.recvB p.now z).2:=⟨_,rfl⟩;have ag:=hid (show p.bldB false z=(p.setC false d).put false l from by rw[hd,hl];rfl);have d6:=hid (show Bld p.a.c d l from by rw[hd,hl];exact a7.2);have bo:=hid (And.intro hd hl);clear hd hl h3';have ac:=hid (show d.Ok from by have h1:=(a7.1.al.run.1.sd false).c;rw[ag.o,Pr.put_sd]at h1;exact h1)
        go_upto_region 35 with fail
        refine bJ (fun W:World=>W.cell? ⟨t.B,13,none⟩=some (.int .i64 p.now)/\RowB F 43 (aU ((z,none,0):cA)) W) (⟨aF.cell 13 (.int .i64 p.now) rfl,HZ.o⟩) fun hZ=>?_;replace aF:=hid (aF.bel (Below.refl _ _).drew);replace HZ:=hid (HZ.below (Below.refl _ _).drew);generalize d5.drew=w11 at aF HZ hZ|-;refine wpAnyH_take (i:=0) (v:= ?_) (by simp only[List.getElem?_toArray,List.getElem?_cons_zero];rfl) (by kernel_rfl) (by kernel_rfl) (by kernel_rfl) (by exact fun _ _ _ h=>h) (Or.inl ⟨by rfl,?_⟩) (by assumption) ?_;rotate_left 1
        ·intro w hSw;(try dsimp only at hSw);go_simp;(try with_reducible rfl)
        (try simp only[Act.put,List.setIfInBounds_toArray,List.set_cons_zero,List.set_cons_succ])
        refine wpAnyH_take (i:=1) (v:= ?_) (by simp only[List.getElem?_toArray,List.getElem?_cons_succ,List.getElem?_cons_zero];rfl) (by kernel_rfl) (by kernel_rfl) (by kernel_rfl) (by exact fun _ _ _ h=>h) (Or.inl ⟨by rfl,?_⟩) (by assumption) ?_;rotate_left 1
        ·intro w hSw;(try dsimp only at hSw);go_simp;(try with_reducible rfl)
        (try simp only[Act.put,List.setIfInBounds_toArray,List.set_cons_zero,List.set_cons_succ])
        refine wpAnyH_take (i:=2) (v:= ?_) (by simp only[List.getElem?_toArray,List.getElem?_cons_succ,List.getElem?_cons_zero];rfl) (by kernel_rfl) (by kernel_rfl) (by kernel_rfl) (by exact fun _ _ _ h=>h) (Or.inl ⟨by rfl,?_⟩) (by assumption) ?_;rotate_left 1
        ·intro w hSw;(try dsimp only at hSw);go_simp;(try with_reducible rfl)
        (try simp only[Act.put,List.setIfInBounds_toArray,List.set_cons_zero,List.set_cons_succ])
        refine wpAnyH_take (i:=3) (v:= ?_) (by simp only[List.getElem?_toArray,List.getElem?_cons_succ,List.getElem?_cons_zero];rfl) (by kernel_rfl) (by kernel_rfl) (by kernel_rfl) (by exact fun _ _ _ h=>h) (Or.inl ⟨by rfl,?_⟩) (by assumption) ?_;rotate_left 1
        ·intro w hSw;(try dsimp only at hSw);go_simp;(try with_reducible rfl)
        (try simp only[Act.put,List.setIfInBounds_toArray,List.set_cons_zero,List.set_cons_succ])
        refine wpAnyH_take (i:=4) (v:= ?_) (by simp only[List.getElem?_toArray,List.getElem?_cons_succ,List.getElem?_cons_zero];rfl) (by kernel_rfl) (by kernel_rfl) (by kernel_rfl) (by exact fun _ _ _ h=>h) (Or.inl ⟨by rfl,?_⟩) (by assumption) ?_;rotate_left 1
        ·intro w hSw;(try dsimp only at hSw);go_simp;(try with_reducible rfl)
        (try simp only[Act.put,List.setIfInBounds_toArray,List.set_cons_zero,List.set_cons_succ])
        refine sU 5 (aU ((z,none,0):cA)) (fun _ h=>RowB.range h.2) Tryz.underlying43 jk ?_ (ha:=by((try simp only[Act.put,List.setIfInBounds_toArray,List.set_cons_zero,List.set_cons_succ,aU]);(try rfl)));refine wpAnyH_ready (rs:=[6]) (by kernel_rfl) (by simp) ?_;refine AllReadyH.cons (by simp only[List.getElem?_toArray,List.getElem?_cons_succ,List.getElem?_cons_zero];rfl) (fun Kq hKq=> ?_) AllReadyH.nil;go_simp;refine(Ba tk.fa p.a.c p.now z none 0 _ aF.pa.a an.o bn.o (by rw[dT.o];exact Bo _)).mono ?_;rintro e w12⟨v,g,rfl,hown,hcn,hch,hg⟩;rw[<-bo.1]at hcn;rw[<-bo.2]at hown;have k9:=aF.pa.onC false g d hcn hch hg;replace HZ:=hid (aQ.chgF HZ.o aF.pa.a hch);replace aF:=hid (aF.trans k9);have a6:=hid hown;clear hown hcn hch hg k9;go_simp;refine hKq.out _ _ (⟨aF.cell 13 (.int .i64 p.now) rfl,HZ.o⟩) (fun a4=> ?_);clear hKq Kq hZ
        (try simp only[Act.put,List.setIfInBounds_toArray,List.set_cons_zero,List.set_cons_succ])
        have hZ:=a4;clear a4;refine wpAnyH_take (i:=7) (v:= ?_) (by simp only[List.getElem?_toArray,List.getElem?_cons_succ,List.getElem?_cons_zero];rfl) (by kernel_rfl) (by kernel_rfl) (by kernel_rfl) (by exact fun _ _ _ h=>h) (Or.inl ⟨by rfl,?_⟩) (by assumption) ?_;rotate_left 1
        ·intro w hSw;(try dsimp only at hSw);go_simp;(try with_reducible rfl)
        (try simp only[Act.put,List.setIfInBounds_toArray,List.set_cons_zero,List.set_cons_succ])
        refine bE ?_ _;clear hZ HZ bo;have d7:=d6.seen;obtain⟨b1,b2,b3,b4,b5,b6,b7⟩:=d7;have c0:=hid b1;have c1:=hid b2;have c2:=hid b3;have c3:=hid b4;have c4:=hid b5;have bu:=hid b7;clear b1 b2 b3 b4 b5 b7
        rcases l with _ | ⟨s0,_ | ⟨s1,l⟩⟩
        ·obtain⟨aO,cO,rfl⟩:=a6.none;go_wp2_with fail;refine(xk { tk.fa with G:=g } d _ aF.pa.a ac.o).mono ?_;rintro e w13⟨rfl,hb⟩;replace aF:=hid (aF.bel hb);replace a6:=hid (a6.below hb);clear hb;rw[c1.o,c2.o];go_wp2_with fail;refine(dJ { tk.fa with G:=g } d _ aF.pa.a).mono ?_;rintro e wx⟨rfl,rfl⟩;rw[c0.o];go_wp2_with fail;refine(qq { tk.fa with G:=g } d _ aF.pa.a (by have h1:=ac.hlen;omega) (by have h1:=ac.cfr;omega)).mono ?_;rintro e w14⟨rfl,hb⟩;replace aF:=hid (aF.bel hb);replace a6:=hid (a6.below hb);clear hb;rw[c3.o];go_wp2_with fail;refine(pT { tk.fa with G:=g } d _ aF.pa.a).mono ?_;rintro e wx⟨rfl,rfl⟩;rw[c4.o];have aa:=hid (dr (X:=p.setC false d) (i:=false) (l:=[]) (by rw[<-ag.o];exact a7.1.al.run.1) (by have h1:=HK.al.run.1.wlen;show p.wire.length<=400000000;omega) (HK.al.ml.setSd _ _) (by omega));have a5:=cc w3.heap.size _ _ false _ _ _ _ aF.pa a6.o aa.1 aa.2.1 aa.2.2 HK.al.run.1.now;rw[aF.eB,show bI false=0 from rfl]at a5;go_wp2_with fail;refine a5.mono ?_;rintro e w15⟨rfl,t15,k15⟩;have ab:=hid (show PrSt w3.heap.size t w4 t15 (p.bldB false z) w15 from by rw[ag.o];exact aF.trans k15);clear a5 k15;go_wp2_with fail
         go_roundg (gk-1)
         case measure=>omega
         case rel=>exact⟨1,t15,_,by first | rfl | go_num | omega,by omega,ab.o,a7.1.mono (by omega)⟩
        ·obtain⟨gO,cO,-,-,rfl,-⟩:=a6.one;go_wp2_with fail;refine(xk { tk.fa with G:=g } d _ aF.pa.a ac.o).mono ?_;rintro e w13⟨rfl,hb⟩;replace aF:=hid (aF.bel hb);replace a6:=hid (a6.below hb);clear hb;rw[c1.o,c2.o];go_wp2_with fail;refine(dJ { tk.fa with G:=g } d _ aF.pa.a).mono ?_;rintro e wx⟨rfl,rfl⟩;rw[c0.o];go_wp2_with fail;refine(qq { tk.fa with G:=g } d _ aF.pa.a (by have h1:=ac.hlen;omega) (by have h1:=ac.cfr;omega)).mono ?_;rintro e w14⟨rfl,hb⟩;replace aF:=hid (aF.bel hb);replace a6:=hid (a6.below hb);clear hb;rw[c3.o];go_wp2_with fail;refine(pT { tk.fa with G:=g } d _ aF.pa.a).mono ?_;rintro e wx⟨rfl,rfl⟩;rw[c4.o];obtain⟨g',cap',a',c',e',hr⟩:=a6.one
         cases e'
         have r6:w14.cell? ⟨gO,6,none⟩=some (.bool false):=(hr 6 (.bool s0.rst) rfl).trans (by rw[(bu.o s0 (by simp)).1]);have r4:w14.cell? ⟨gO,4,none⟩=some (.bool false):=(hr 4 (.bool s0.syn) rfl).trans (by rw[(bu.o s0 (by simp)).2.1]);have eL:w14.cell? ⟨gO,12,none⟩=some (.string ⟨#[]⟩):=(hr 12 (.string ⟨s0.s.toArray⟩) rfl).trans (by rw[(bu.o s0 (by simp)).2.2]);clear hr;have aa:=hid (dr (X:=p.setC false d) (i:=false) (l:=[s0]) (by rw[<-ag.o];exact a7.1.al.run.1) (by have h1:=HK.al.run.1.wlen;show p.wire.length<=400000000;omega) (HK.al.ml.setSd _ _) (by omega));have a5:=cc w3.heap.size _ _ false _ _ _ _ aF.pa a6.o aa.1 aa.2.1 aa.2.2 HK.al.run.1.now;rw[aF.eB,show bI false=0 from rfl]at a5;go_wp2_with fail;refine a5.mono ?_;rintro e w15⟨rfl,t15,k15⟩;have ab:=hid (show PrSt w3.heap.size t w4 t15 (p.bldB false z) w15 from by rw[ag.o];exact aF.trans k15);clear a5 k15;go_wp2_with fail
         go_roundg (gk-1)
         case measure=>omega
         case rel=>exact⟨1,t15,_,by first | rfl | go_num | omega,by omega,ab.o,a7.1.mono (by omega)⟩
        simp at b6
      have q6:wr.cell? ⟨t.B,6,none⟩=some (.pointer (some ⟨tk.fb.C,0,none⟩)):=by have:=HS.cell 6 _ rfl;exact this
      go_upto_region 16 with(refine wpList_load_mid rfl 43 _ rfl b3 (ba+r*13) rfl (aU (y,ya,yc)) _ cf.o Tryz.underlying43 rfl jk ?_;(try dsimp only[aU]))
      clear q6 cF;change Code.wp _ _ _ _ (wr.alloc (.cells (aU (y,ya,yc)).toArray 43));have cM:=(Below.refl wr.heap.size wr).alloc (Nat.le_refl _) (.cells (aU (y,ya,yc)).toArray 43);have HY:=hid (RowB.new wr 43 (aU (y,ya,yc)));obtain⟨F,hF⟩:∃F,F=wr.heap.size:=⟨_,rfl⟩;have a9:=hid (show wr.heap.size<=F from Nat.le_of_eq hF.symm);rw[<-hF]at HY|-;clear hF;have a0:=hid cM;clear cM;generalize wr.alloc (.cells (aU (y,ya,yc)).toArray 43)=w6 at HY a0|-;have cg:y.s.length<=maxLen:=bb.len;have hsz:(⟨y.s.toArray⟩:ByteArray).size=y.s.length:=by show y.s.toArray.size=_;simp
      obtain⟨k6,hk6⟩:∃k6:Nat,min (y.s.length:Int) 60=(k6:Int):=⟨min y.s.length 60,by omega⟩;have bc:k6<=y.s.length:=by omega
      have cS:y.s.take k6=y.s.take 60:=by rcases(show k6=60\/(k6=y.s.length/\y.s.length<=60) by omega)with h | ⟨h,h'⟩;rw[h];rw[h,List.take_length,List.take_of_length_le h']
      have cT:=hid cS;clear cS;have ch:=HY.cell 12 (.string ⟨y.s.toArray⟩) rfl;have y0:=HY.cell 0 _ rfl;have y1:=HY.cell 1 _ rfl;have cl:=HY.cell 11 _ rfl;have f0:=HY.free 0;have f1:=HY.free 1;have f11:=HY.free 11;have cn:=HY.free 12
      go_upto_region 20 with fail
      change Code.wp _ _ _ _ ((((w6.setCell ⟨F,12,none⟩ (.string ((⟨y.s.toArray⟩:ByteArray).extract 0 k6))).setCell ⟨F,11,none⟩ (.slice none 0 0)).setCell ⟨F,0,none⟩ (.int .i64 80)).setCell ⟨F,1,none⟩ (.int .i64 5000));clear y0 y1 cl ch f0 f1 f11 cn cg hsz hk6 bc;have HZ:=hid (show RowB F 43 (aU (({ y with s:=y.s.take 60,bl:=[],fp:=80,tp:=5000 },none,0):cA)) ((((w6.setCell ⟨F,12,none⟩ (.string ((⟨y.s.toArray⟩:ByteArray).extract 0 k6))).setCell ⟨F,11,none⟩ (.slice none 0 0)).setCell ⟨F,0,none⟩ (.int .i64 80)).setCell ⟨F,1,none⟩ (.int .i64 5000))from by have h:=(((HY.set 12 (.string ((⟨y.s.toArray⟩:ByteArray).extract 0 k6))).set 11 (.slice none 0 0)).set 0 (.int .i64 80)).set 1 (.int .i64 5000);rw[Bh,cT.o]at h|-;exact h);replace a0:=hid ((((a0.setCell (p:=⟨F,12,none⟩) a9.o (.string ((⟨y.s.toArray⟩:ByteArray).extract 0 k6))).setCell (p:=⟨F,11,none⟩) a9.o (.slice none 0 0)).setCell (p:=⟨F,0,none⟩) a9.o (.int .i64 80)).setCell (p:=⟨F,1,none⟩) a9.o (.int .i64 5000));clear HY cT;generalize ((((w6.setCell ⟨F,12,none⟩ (.string ((⟨y.s.toArray⟩:ByteArray).extract 0 k6))).setCell ⟨F,11,none⟩ (.slice none 0 0)).setCell ⟨F,0,none⟩ (.int .i64 80)).setCell ⟨F,1,none⟩ (.int .i64 5000))=w7 at HZ a0|-;have n2:=(b9.below a0.o).cell 2 (.int .i64 (dC x).iss) rfl;have m2:=(b8.below a0.o).cell 2 (.int .i64 (df x).iss) rfl;have y0:=HZ.cell 0 _ rfl;have y1:=HZ.cell 1 _ rfl;have f0:=HZ.free 0;have f1:=HZ.free 1
      go_upto_region 25 with fail
      change Code.wp _ _ _ _ ((w7.setCell ⟨F,0,none⟩ (.int .i64 5000)).setCell ⟨F,1,none⟩ (.int .i64 80));clear y0 y1 f0 f1 n2 m2;replace HZ:=hid (show RowB F 43 (aU (({ y with s:=y.s.take 60,bl:=[],fp:=5000,tp:=80 },none,0):cA)) ((w7.setCell ⟨F,0,none⟩ (.int .i64 5000)).setCell ⟨F,1,none⟩ (.int .i64 80))from(HZ.set 0 (.int .i64 5000)).set 1 (.int .i64 80));replace a0:=hid ((a0.setCell (p:=⟨F,0,none⟩) a9.o (.int .i64 5000)).setCell (p:=⟨F,1,none⟩) a9.o (.int .i64 80));generalize ((w7.setCell ⟨F,0,none⟩ (.int .i64 5000)).setCell ⟨F,1,none⟩ (.int .i64 80))=w8 at HZ a0|-;obtain⟨w7,hw7⟩:∃w7,w7=w8:=⟨_,rfl⟩;rw[<-hw7]at HZ a0|-;clear hw7;have n2:=(b9.below a0.o).cell 2 (.int .i64 (dC x).iss) rfl;have m2:=(b8.below a0.o).cell 2 (.int .i64 (df x).iss) rfl;have cX:=hid (show aG (df x).iss/\aG (dC x).iss from⟨Bc _,Bc _⟩);have am:=hid (And.intro bb.sq bb.ak);replace am:Hid (aG y.sq/\aG y.ak):=am;obtain⟨q1,hq1⟩:∃q1,q1=aR y.sq 2000000000:=⟨_,rfl⟩;obtain⟨q2,hq2⟩:∃q2,q2=aR y.ak 2000000000:=⟨_,rfl⟩;have hp1:=ai y.sq 2000000000 (by decide);have hp2:=ai y.ak 2000000000 (by decide);rw[<-hq1]at hp1;rw[<-hq2]at hp2;have bd:=hid hq1;have cY:=hid hq2;clear hq1 hq2;obtain⟨p1,p2⟩:=hp1;obtain⟨p3,p4⟩:=hp2;have y2:=HZ.cell 2 (.int .i64 y.sq) rfl;have f2:=HZ.free 2;obtain⟨hv,hhv⟩:∃hv,hv=y.has:=⟨_,rfl⟩;have y7:=HZ.cell 7 (.bool y.has) rfl;rw[<-hhv]at y7;have be:=hid hhv;clear hhv;go_wp2_with fail;refine(bH y.sq 2000000000 _ am.1 (by decide) (by decide)).mono ?_;rintro e wx⟨rfl,rfl⟩;rw[<-bd.o];go_wp2_with fail;refine(Ar (df x).iss (1000000000+q1) _ cX.1 (by unfold aG;omega)).mono ?_;rintro e wx⟨rfl,rfl⟩;obtain⟨sq',hsq'⟩:∃sq',sq'=uG (df x).iss (1000000000+q1):=⟨_,rfl⟩;rw[<-hsq'];have ad:=hid hsq';clear hsq'
      go_upto_if 117 with fail
      change Code.wp _ _ _ _ (w7.setCell ⟨F,2,none⟩ (.int .i64 sq'));clear y2 f2;replace HZ:=hid (show RowB F 43 (aU (({ y with s:=y.s.take 60,bl:=[],fp:=5000,tp:=80,sq:=uG (df x).iss (1000000000+aR y.sq 2000000000) },none,0):cA)) (w7.setCell ⟨F,2,none⟩ (.int .i64 sq'))from by have h:=HZ.set 2 (.int .i64 sq');rw[ad.o,bd.o]at h|-;exact h);replace a0:=hid (a0.setCell (p:=⟨F,2,none⟩) a9.o (.int .i64 sq'));clear ad p1 p2 bd;replace y7:(w7.setCell ⟨F,2,none⟩ (.int .i64 sq')).cell? ⟨F,7,none⟩=some (.bool hv):=(HZ.cell 7 (.bool y.has) rfl).trans (by rw[be.o]);generalize (w7.setCell ⟨F,2,none⟩ (.int .i64 sq'))=w8 at HZ a0 y7|-
      go_cut [19]from 118 to 124 (fun _ wx=>RowB F 43 (aU (((B8 y 5000 80 (df x).iss (dC x).iss),none,0):cA)) wx/\Below wr.heap.size wr wx)
      case first =>
       rcases hv
       ·have HT:=hid (show y.has=false from be.symm);go_wp2_with fail
        go_meet
        case rel=>exact⟨by rw[Bj HT.o];exact HZ.o,a0.o⟩
       have HT:=hid (show y.has=true from be.symm);have y3:=HZ.cell 3 (.int .i64 y.ak) rfl;have f3:=HZ.free 3;go_wp2_with fail;refine(bH y.ak 2000000000 _ am.2 (by decide) (by decide)).mono ?_;rintro e wx⟨rfl,rfl⟩;rw[<-cY.o];go_wp2_with fail;refine(Ar (dC x).iss (1000000000+q2) _ cX.2 (by unfold aG;omega)).mono ?_;rintro e wx⟨rfl,rfl⟩;obtain⟨ak',hak'⟩:∃ak',ak'=uG (dC x).iss (1000000000+q2):=⟨_,rfl⟩;rw[<-hak'];have dI:=hid hak';clear hak';go_wp2_with fail
       go_meet
       case rel=>exact⟨by have h:=HZ.set 3 (.int .i64 ak');rw[Bi HT.o,<-cY.o,<-dI.o];exact h,a0.setCell (p:=⟨F,3,none⟩) a9.o (.int .i64 ak')⟩
      case rest =>
       obtain⟨hz1,hz2⟩:=hcut;clear HZ a0 y7;have HZ:=hid hz1;have a0:=hid hz2;clear hz1 hz2;obtain⟨z,hz⟩:∃z,z=(B8 y 5000 80 (df x).iss (dC x).iss):=⟨_,rfl⟩;rw[<-hz]at HZ;have dT:=hid (show z.bl=[]from by rw[hz];rfl);have d4:=hid hz;clear hz;have aF:=hid (HS.bel a0.o);have an:=hid HK.al.run.1.b.c;have bn:=hid HK.al.run.1.in64;go_wp2_with fail;refine(dJ tk.fb p.b.c _ aF.pa.b).mono ?_;rintro e wx⟨rfl,rfl⟩;go_wp2_with fail;refine(xk tk.fb p.b.c _ aF.pa.b an.o).mono ?_;rintro e w9⟨rfl,hb⟩;replace aF:=hid (aF.bel hb);replace HZ:=hid (HZ.below hb);replace a0:=hid (a0.trans (hb.mono a0.size));clear hb;go_wp2_with fail;refine(qq tk.fb p.b.c _ aF.pa.b (by have h1:=an.hlen;omega) (by have h1:=an.cfr;omega)).mono ?_;rintro e d5⟨rfl,hb⟩;replace aF:=hid (aF.bel hb);replace HZ:=hid (HZ.below hb);replace a0:=hid (a0.trans (hb.mono a0.size));clear hb;go_wp2_with fail;refine(pT tk.fb p.b.c _ aF.pa.b).mono ?_;rintro e wx⟨rfl,rfl⟩;by_cases h3:p.b.c.st<3
       ·go_wp2_with fail
        go_roundg (gk-1)
        case measure=>omega
        case rel=>exact⟨2,tk,p,by first | rfl | go_num | omega,by omega,aF.o,HK.mono (by omega)⟩
       have h3':3<=p.b.c.st:=by omega
       have a7:=hid (show Pr.BlK x (p.bldB true z) (23*(k:Int)+21+1+1)/\Bld p.b.c (p.b.c.recvB p.now z).1 (p.b.c.recvB p.now z).2 from by rw[d4.o];exact HK.bldB true h3' y 5000 80);obtain⟨d,hd⟩:∃d,d=(p.b.c.recvB p.now z).1:=⟨_,rfl⟩;obtain⟨l,hl⟩:∃l,l=(p.b.c.recvB p.now z).2:=⟨_,rfl⟩;have ag:=hid (show p.bldB true z=(p.setC true d).put true l from by rw[hd,hl];rfl);have d6:=hid (show Bld p.b.c d l from by rw[hd,hl];exact a7.2);have bo:=hid (And.intro hd hl);clear hd hl h3';have ac:=hid (show d.Ok from by have h1:=(a7.1.al.run.1.sd true).c;rw[ag.o,Pr.put_sd]at h1;exact h1)
       go_upto_region 35 with fail
       refine bJ (fun W:World=>W.cell? ⟨t.B,13,none⟩=some (.int .i64 p.now)/\RowB F 43 (aU ((z,none,0):cA)) W) (⟨aF.cell 13 (.int .i64 p.now) rfl,HZ.o⟩) fun hZ=>?_;replace aF:=hid (aF.bel (Below.refl _ _).drew);replace HZ:=hid (HZ.below (Below.refl _ _).drew);generalize d5.drew=w11 at aF HZ hZ|-;refine wpAnyH_take (i:=0) (v:= ?_) (by simp only[List.getElem?_toArray,List.getElem?_cons_zero];rfl) (by kernel_rfl) (by kernel_rfl) (by kernel_rfl) (by exact fun _ _ _ h=>h) (Or.inl ⟨by rfl,?_⟩) (by assumption) ?_;rotate_left 1
       ·intro w hSw;(try dsimp only at hSw);go_simp;(try with_reducible rfl)
       (try simp only[Act.put,List.setIfInBounds_toArray,List.set_cons_zero,List.set_cons_succ])
       refine wpAnyH_take (i:=1) (v:= ?_) (by simp only[List.getElem?_toArray,List.getElem?_cons_succ,List.getElem?_cons_zero];rfl) (by kernel_rfl) (by kernel_rfl) (by kernel_rfl) (by exact fun _ _ _ h=>h) (Or.inl ⟨by rfl,?_⟩) (by assumption) ?_;rotate_left 1
       ·intro w hSw;(try dsimp only at hSw);go_simp;(try with_reducible rfl)
       (try simp only[Act.put,List.setIfInBounds_toArray,List.set_cons_zero,List.set_cons_succ])
       refine wpAnyH_take (i:=2) (v:= ?_) (by simp only[List.getElem?_toArray,List.getElem?_cons_succ,List.getElem?_cons_zero];rfl) (by kernel_rfl) (by kernel_rfl) (by kernel_rfl) (by exact fun _ _ _ h=>h) (Or.inl ⟨by rfl,?_⟩) (by assumption) ?_;rotate_left 1
       ·intro w hSw;(try dsimp only at hSw);go_simp;(try with_reducible rfl)
       (try simp only[Act.put,List.setIfInBounds_toArray,List.set_cons_zero,List.set_cons_succ])
       refine wpAnyH_take (i:=3) (v:= ?_) (by simp only[List.getElem?_toArray,List.getElem?_cons_succ,List.getElem?_cons_zero];rfl) (by kernel_rfl) (by kernel_rfl) (by kernel_rfl) (by exact fun _ _ _ h=>h) (Or.inl ⟨by rfl,?_⟩) (by assumption) ?_;rotate_left 1
       ·intro w hSw;(try dsimp only at hSw);go_simp;(try with_reducible rfl)
       (try simp only[Act.put,List.setIfInBounds_toArray,List.set_cons_zero,List.set_cons_succ])
       refine wpAnyH_take (i:=4) (v:= ?_) (by simp only[List.getElem?_toArray,List.getElem?_cons_succ,List.getElem?_cons_zero];rfl) (by kernel_rfl) (by kernel_rfl) (by kernel_rfl) (by exact fun _ _ _ h=>h) (Or.inl ⟨by rfl,?_⟩) (by assumption) ?_;rotate_left 1
       ·intro w hSw;(try dsimp only at hSw);go_simp;(try with_reducible rfl)
       (try simp only[Act.put,List.setIfInBounds_toArray,List.set_cons_zero,List.set_cons_succ])
       refine sU 5 (aU ((z,none,0):cA)) (fun _ h=>RowB.range h.2) Tryz.underlying43 jk ?_ (ha:=by((try simp only[Act.put,List.setIfInBounds_toArray,List.set_cons_zero,List.set_cons_succ,aU]);(try rfl)));refine wpAnyH_ready (rs:=[6]) (by kernel_rfl) (by simp) ?_;refine AllReadyH.cons (by simp only[List.getElem?_toArray,List.getElem?_cons_succ,List.getElem?_cons_zero];rfl) (fun Kq hKq=> ?_) AllReadyH.nil;go_simp;refine(Ba tk.fb p.b.c p.now z none 0 _ aF.pa.b an.o bn.o (by rw[dT.o];exact Bo _)).mono ?_;rintro e w12⟨v,g,rfl,hown,hcn,hch,hg⟩;rw[<-bo.1]at hcn;rw[<-bo.2]at hown;have k9:=aF.pa.onC true g d hcn hch hg;replace HZ:=hid (aQ.chgF HZ.o aF.pa.b hch);replace aF:=hid (aF.trans k9);have a6:=hid hown;clear hown hcn hch hg k9;go_simp;refine hKq.out _ _ (⟨aF.cell 13 (.int .i64 p.now) rfl,HZ.o⟩) (fun a4=> ?_);clear hKq Kq hZ
       (try simp only[Act.put,List.setIfInBounds_toArray,List.set_cons_zero,List.set_cons_succ])
       have hZ:=a4;clear a4;refine wpAnyH_take (i:=7) (v:= ?_) (by simp only[List.getElem?_toArray,List.getElem?_cons_succ,List.getElem?_cons_zero];rfl) (by kernel_rfl) (by kernel_rfl) (by kernel_rfl) (by exact fun _ _ _ h=>h) (Or.inl ⟨by rfl,?_⟩) (by assumption) ?_;rotate_left 1
       ·intro w hSw;(try dsimp only at hSw);go_simp;(try with_reducible rfl)
       (try simp only[Act.put,List.setIfInBounds_toArray,List.set_cons_zero,List.set_cons_succ])
       refine bE ?_ _;clear hZ HZ bo;have d7:=d6.seen;obtain⟨b1,b2,b3,b4,b5,b6,b7⟩:=d7;have c0:=hid b1;have c1:=hid b2;have c2:=hid b3;have c3:=hid b4;have c4:=hid b5;have bu:=hid b7;clear b1 b2 b3 b4 b5 b7
       rcases l with _ | ⟨s0,_ | ⟨s1,l⟩⟩
       ·obtain⟨aO,cO,rfl⟩:=a6.none;go_wp2_with fail;refine(xk { tk.fb with G:=g } d _ aF.pa.b ac.o).mono ?_;rintro e w13⟨rfl,hb⟩;replace aF:=hid (aF.bel hb);replace a6:=hid (a6.below hb);clear hb;rw[c1.o,c2.o];go_wp2_with fail;refine(dJ { tk.fb with G:=g } d _ aF.pa.b).mono ?_;rintro e wx⟨rfl,rfl⟩;rw[c0.o];go_wp2_with fail;refine(qq { tk.fb with G:=g } d _ aF.pa.b (by have h1:=ac.hlen;omega) (by have h1:=ac.cfr;omega)).mono ?_;rintro e w14⟨rfl,hb⟩;replace aF:=hid (aF.bel hb);replace a6:=hid (a6.below hb);clear hb;rw[c3.o];go_wp2_with fail;refine(pT { tk.fb with G:=g } d _ aF.pa.b).mono ?_;rintro e wx⟨rfl,rfl⟩;rw[c4.o];have aa:=hid (dr (X:=p.setC true d) (i:=true) (l:=[]) (by rw[<-ag.o];exact a7.1.al.run.1) (by have h1:=HK.al.run.1.wlen;show p.wire.length<=400000000;omega) (HK.al.ml.setSd _ _) (by omega));have a5:=cc w3.heap.size _ _ true _ _ _ _ aF.pa a6.o aa.1 aa.2.1 aa.2.2 HK.al.run.1.now;rw[aF.eB,show bI true=1 from rfl]at a5;go_wp2_with fail;refine a5.mono ?_;rintro e w15⟨rfl,t15,k15⟩;have ab:=hid (show PrSt w3.heap.size t w4 t15 (p.bldB true z) w15 from by rw[ag.o];exact aF.trans k15);clear a5 k15;go_wp2_with fail
        go_roundg (gk-1)
        case measure=>omega
        case rel=>exact⟨2,t15,_,by first | rfl | go_num | omega,by omega,ab.o,a7.1.mono (by omega)⟩
       ·obtain⟨gO,cO,-,-,rfl,-⟩:=a6.one;go_wp2_with fail;refine(xk { tk.fb with G:=g } d _ aF.pa.b ac.o).mono ?_;rintro e w13⟨rfl,hb⟩;replace aF:=hid (aF.bel hb);replace a6:=hid (a6.below hb);clear hb;rw[c1.o,c2.o];go_wp2_with fail;refine(dJ { tk.fb with G:=g } d _ aF.pa.b).mono ?_;rintro e wx⟨rfl,rfl⟩;rw[c0.o];go_wp2_with fail;refine(qq { tk.fb with G:=g } d _ aF.pa.b (by have h1:=ac.hlen;omega) (by have h1:=ac.cfr;omega)).mono ?_;rintro e w14⟨rfl,hb⟩;replace aF:=hid (aF.bel hb);replace a6:=hid (a6.below hb);clear hb;rw[c3.o];go_wp2_with fail;refine(pT { tk.fb with G:=g } d _ aF.pa.b).mono ?_;rintro e wx⟨rfl,rfl⟩;rw[c4.o];obtain⟨g',cap',a',c',e',hr⟩:=a6.one
        cases e'
        have r6:w14.cell? ⟨gO,6,none⟩=some (.bool false):=(hr 6 (.bool s0.rst) rfl).trans (by rw[(bu.o s0 (by simp)).1]);have r4:w14.cell? ⟨gO,4,none⟩=some (.bool false):=(hr 4 (.bool s0.syn) rfl).trans (by rw[(bu.o s0 (by simp)).2.1]);have eL:w14.cell? ⟨gO,12,none⟩=some (.string ⟨#[]⟩):=(hr 12 (.string ⟨s0.s.toArray⟩) rfl).trans (by rw[(bu.o s0 (by simp)).2.2]);clear hr;have aa:=hid (dr (X:=p.setC true d) (i:=true) (l:=[s0]) (by rw[<-ag.o];exact a7.1.al.run.1) (by have h1:=HK.al.run.1.wlen;show p.wire.length<=400000000;omega) (HK.al.ml.setSd _ _) (by omega));have a5:=cc w3.heap.size _ _ true _ _ _ _ aF.pa a6.o aa.1 aa.2.1 aa.2.2 HK.al.run.1.now;rw[aF.eB,show bI true=1 from rfl]at a5;go_wp2_with fail;refine a5.mono ?_;rintro e w15⟨rfl,t15,k15⟩;have ab:=hid (show PrSt w3.heap.size t w4 t15 (p.bldB true z) w15 from by rw[ag.o];exact aF.trans k15);clear a5 k15;go_wp2_with fail
        go_roundg (gk-1)
        case measure=>omega
        case rel=>exact⟨2,t15,_,by first | rfl | go_num | omega,by omega,ab.o,a7.1.mono (by omega)⟩
       simp at b6
     have eC:¬0<(len3:Int):=by omega
     have hs1:(s:Int)<2:=by omega
     go_wp2_with fail
     go_roundg (K2-(k+1))
     case measure=>omega
     case rel=>exact⟨k+1,tk,p,by first | rfl | go_num | (have e:wrap64 ((k:Int)+1)=((k+1:Nat):Int):=(by unfold wrap64;omega);rw[e]),by omega,HS.o,HK.mono (by omega)⟩
    have hs1:¬(s:Int)<2:=by omega
    go_wp2_with fail
    go_roundg (K2-(k+1))
    case measure=>omega
    case rel=>exact⟨k+1,tk,p,by first | rfl | go_num | (have e:wrap64 ((k:Int)+1)=((k+1:Nat):Int):=(by unfold wrap64;omega);rw[e]),by omega,HS.o,HK.mono (by omega)⟩
  have hge:k=K2:=by omega
  by_cases hk2:(k:Int)<(len2:Int)
  ·have c8:¬(k:Int)<15:=by omega
   have bv:=nK w3.heap.size tk p wr _ _ HS.pa HK.al.run.1 HK.al.v.1 HK.al.v.2.1;rw[HS.eB]at bv;go_wp2_with fail;refine bv.mono ?_;rintro e w9⟨rfl,hb⟩;have d8:=hid (ax.trans (hb.mono ax.size));clear hb bv;go_wp2;go_ret;exact⟨by first | rfl | simp,d8.o⟩
  have bv:=nK w3.heap.size tk p wr _ _ HS.pa HK.al.run.1 HK.al.v.1 HK.al.v.2.1;rw[HS.eB]at bv;go_wp2_with fail;refine bv.mono ?_;rintro e w9⟨rfl,hb⟩;have d8:=hid (ax.trans (hb.mono ax.size));clear hb bv;go_wp2;go_ret;exact⟨by first | rfl | simp,d8.o⟩
end Go.Proofs.YtclkcmidhhfdmaaGreatDoor
