import Derived.Test.YtcmncipikdpnbaaGreatDoorUb27
import Derived.Test.YtcmncipikdpnbaaGreatDoorUb30
namespace Go.Proofs.YtcmncipikdpnbaaGreatDoor
section
set_option maxHeartbeats 8000000
set_option maxRecDepth 100000
open Go.RowKit Go.Shelf
def dX (now:Int)(M:List bH):List bH:=M.filter fun x=>Pr.A4 now x.1
def fG (now:Int)(M:List bH):List bH:=M.filter fun x=> !Pr.A4 now x.1
theorem gM {α:Type}(M:List α)(k:Nat)(h:k<M.length):M.take (k+1)=M.take k++[M[k]]:=by rw[Lz h]
theorem vX (now:Int)(M:List bH)(k:Nat)(h:k<M.length):dX now (M.take (k+1))=if Pr.A4 now M[k].1=true then dX now (M.take k)++[M[k]]else dX now (M.take k):=by
 unfold dX;rw[gM M k h,Mt];by_cases a:Pr.A4 now M[k].1=true <;> simp[a]
theorem sQ (now:Int)(M:List bH)(k:Nat)(h:k<M.length):fG now (M.take (k+1))=if Pr.A4 now M[k].1=true then fG now (M.take k)else fG now (M.take k)++[M[k]]:=by
 unfold fG;rw[gM M k h,Mt];by_cases a:Pr.A4 now M[k].1=true <;> simp[a]
def fh (l:List bH)(d:Bool):Bool:=l.any fun f=>f.1.dst==d
theorem ig (l:List bH)(x:bH)(d:Bool):fh (l++[x]) d=(fh l d||x.1.dst==d):=by unfold fh;rw[List.any_append];simp
theorem kC (b:Bool):(b=false/\bI b=0)\/(b=true/\bI b=1):=by cases b <;> simp[bI]
def fH (now:Int)(a L:List bH):List bH:=L.filter fun x=>Pr.Cd now (a.map (·.1)) x.1
def gO (now:Int)(a L:List bH):List bH:=L.filter fun x=> !Pr.Cd now (a.map (·.1)) x.1
theorem sR (now:Int)(a M:List bH)(k:Nat)(h:k<M.length):fH now a (M.take (k+1))=if Pr.Cd now (a.map (·.1)) M[k].1=true then fH now a (M.take k)++[M[k]]else fH now a (M.take k):=by
 unfold fH;rw[gM M k h,Mt];by_cases b:Pr.Cd now (a.map (·.1)) M[k].1=true <;> simp[b]
theorem sU (now:Int)(a M:List bH)(k:Nat)(h:k<M.length):gO now a (M.take (k+1))=if Pr.Cd now (a.map (·.1)) M[k].1=true then gO now a (M.take k)else gO now a (M.take k)++[M[k]]:=by
 unfold gO;rw[gM M k h,Mt];by_cases b:Pr.Cd now (a.map (·.1)) M[k].1=true <;> simp[b]
theorem BS {p:Pr}{M D0 L b:List bH}(h:M.map (·.1)=p.wire)(h1:D0=dX p.now M)(h2:L=fG p.now M)(d:b=D0++fH p.now D0 L):b.map (·.1)=p.due/\(gO p.now D0 L).map (·.1)=p.rest:=by
 have a:D0.map (·.1)=Pr.EI p.now p.wire:=by rw[h1,<-h];unfold dX Pr.EI;rw[NR];rfl
 have c:L.map (·.1)=Pr.DZ p.now p.wire:=by rw[h2,<-h];unfold fG Pr.DZ;rw[NR];rfl
 constructor
 ·rw[d,LQ,a];unfold Pr.due fH;rw[a,<-c,NR];rfl
 unfold Pr.rest gO;rw[a,<-c,NR];rfl
theorem yW {w:World}{g k:Nat}{x:bH}(h:∀j,j<16->∀u,(dC x)[j]? =some u->w.cell? ⟨g,k*16+j,none⟩=some u):w.rangeAt g (k*16+3) (aX (x.1.s,x.2.1,x.2.2)):=fun j v a=>by
 have h1:j<13:=by have:=(MO.1 a).1;exact this
 have h2:(dC x)[3+j]? =some v:=by rw[Nat.add_comm];exact a
 rw[P0];exact h (3+j) O v h2
def Pr.Ml (p:Pr):Prop:=p.many=p.log.length
theorem Pr.Ml.put {p:Pr}(h:p.Ml)(i:Bool)(l:List Sg):(p.put i l).Ml:=by
 unfold Pr.Ml at h|-;rw[qu,(jz i l p).1,h]
theorem Pr.Ml.kl {p:Pr}(h:p.Ml)(i:Bool)(d:Sd):(p.kl i d).Ml:=by cases i <;> exact h
theorem Pr.Ml.kd {p:Pr}(h:p.Ml)(f:Fl):(p.kd f).Ml:=Pr.Ml.put (h.kl _ _) _ _
theorem Pr.Ml.fold:∀(l:List Fl) {p:Pr},p.Ml->(l.foldl Pr.kd p).Ml:=by
 intro l
 induction l with
 | nil=>exact fun h=>h
 | cons f l a=>exact fun h=>a (h.kd f)
theorem vY (a:List bH)(k:Nat)(h:k<a.length)(q:Pr):((a.take (k+1)).map (·.1)).foldl Pr.kd q=(((a.take k).map (·.1)).foldl Pr.kd q).kd a[k].1:=by
 rw[gM a k h,LQ,N5];rfl
theorem td {p:Pr}{q r:Int}(h:Pr.Fit p q r)(a:p.Ml){f:Fl}(b:f.s.Ok)(j:q<=400000000)(k:r<=101000000000) :
  let d:=(p.sd f.dst).c.receive p.now f.s
  (p.v6 f.dst d.1).log.length+d.2.length<=500000000000/\(p.v6 f.dst d.1).wire.length+2*d.2.length<=500000000000/\(p.v6 f.dst d.1).many+d.2.length<=1000000000000:=by
 intro d;have h1:=(Pr.D5 h b).llen;have h2:(p.kd f).log.length=(p.v6 f.dst d.1).log.length+d.2.length:=(jz f.dst d.2 _).1;have l:=h.Ei;have e:(p.v6 f.dst d.1).wire=p.wire:=by cases f.dst <;> rfl
 have g:(p.v6 f.dst d.1).many=p.many:=by cases f.dst <;> rfl
 have i:(p.v6 f.dst d.1).log=p.log:=by cases f.dst <;> rfl
 have m:p.many=p.log.length:=a;rw[i]at h2|-;rw[e,g];omega
theorem tf (a:List bH)(d:Bool):fh a d=Pr.GT (a.map (·.1)) d:=by unfold fh Pr.GT;rw[List.any_map];rfl
theorem pT (N:Nat) (t:Ft) (p:Pr) (w:World) (q r:Int) (h:C9 N t p w) (U:Pr.Fit p q r) (hq:q<=100000000) (hr:r<=100000000000) (hm:p.many=p.log.length) :
  Calls Tryz.prog 33 #[t.B] w (kh N t w p.deliver):=by
 have d2:=H h;have HK:=H U;have HM:=H hm;have dn:=H U.due;have bc:=U.now;have dp:=U.Ei;obtain⟨ak,al⟩:=bc;obtain⟨M,hM,c9⟩:=h.wire;have d3:=H hM;have ds:=H c9;have dv:M.length=p.wire.length:=by rw[<-hM,LM]
 have eL:(M.length:Int)<=100000000:=O
 clear dv dp;obtain⟨a,f6,hv⟩:=c9.val';have HV:=H hv;have i1:=h.big;have i2:=h.lt;obtain⟨R,hR⟩:∃R,R=p.deliver:=⟨_,Z⟩;rw[<-hR];have HR:=H hR;clear hR hM c9 hv U hm h
 go_enter Tryz.func33,Tryz.ntmps33
 have f7:w.cell? ⟨t.B,12,none⟩=some (.slice a M.length f6):=by have:=d2.cell 12 t.vW Z;rwa [HV.o]at this
 go_wp2_with fail;obtain⟨mb,A⟩:∃mb,mb=w.heap.size:=⟨_,Z⟩;have d4:=H (show Dl N t w t p [] [] (.slice none 0 0) (.slice none 0 0) mb false false (w.alloc (.cells #[false,false] 111))from by subst A;exact Dl.start d2.o);rw[<-A];clear A f7
 go_loopg [2,3,5] M.length (fun g v2 v3 iv wr=>∃(k:Nat),iv=((k:Int):Y)/\g+k=M.length/\Dl N t w t p (dX p.now (M.take k)) (fG p.now (M.take k)) v2 v3 mb (fh (dX p.now (M.take k)) false) (fh (dX p.now (M.take k)) true) wr/\bJ wr N t.vW M)
 case atStart=>exact⟨0,Z,O,d4.o,ds.below ((L5 _ w).alloc (L6 _) _)⟩
 case round =>
  obtain⟨k,rfl,ca,c3,how⟩:=hrel;have i:=H c3;have S:=H how;clear c3 how d4;obtain⟨a2,e2,h5⟩:=i.d.val';obtain⟨a3,e3,h6⟩:=i.l.val';subst h5 h6;have f7:wr.cell? ⟨t.B,12,none⟩=some (.slice a M.length f6):=by have:=i.st.cell 12 t.vW Z;rwa [HV.o]at this
  by_cases U:k<M.length
  ·have d5:(k:Int)<(M.length:Int):=by omega
   have b3:=H (vX p.now M k U);have b4:=H (sQ p.now M k U);obtain⟨g,cg,b6,g4,T⟩:=S.at U;obtain⟨rfl,rfl⟩:a=some ⟨g,0,none⟩/\f6=cg:=by have h1:=HV.o;rw[b6]at h1;cases h1;exact⟨Z,Z⟩
   have E:=H (S.2 M[k] (LS U));obtain⟨x,hx⟩:∃x,x=M[k]:=⟨_,Z⟩;rw[<-hx]at T E b3 b4;clear hx b6;have b7:=H (me T);clear T
   go_wp2_with (refine wpList_load_mid Z 55 _ Z g (k*16) Z (dC x) _ b7.o Tryz.underlying55 Z dD ?_;(try dsimp only[dC,aX]))
   have bd:(dX p.now (M.take k)).length<=100000000:=La (M8 _ _) IX;have cb:(fG p.now (M.take k)).length<=100000000:=La (M8 _ _) IX;have d6:=H (fun J (e:_=some J)=>Nt (i.l.lt J e).2);clear b7;change Code.wp _ _ _ _ (wr.alloc (.cells (dC x).toArray 55));have av:=(L5 wr.heap.size wr).alloc (L6 _) (.cells (dC x).toArray 55);have m:=H (aP.new wr x);have eS:=H (fun J (e:t.vW.ownBlock=some J)=>Nt (S.lt J e).2);have bx:=H (fun J (e:_=some J)=>Nt (i.d.lt J e).2);replace i:=H (i.qn av);replace S:=H (S.below av);replace E:=H (E.keep av.size (aG.below av));clear av;generalize hF:wr.heap.size=F at m bx d6 eS|-;generalize wr.alloc (.cells (dC x).toArray 55)=w1 at *;clear hF
   go_upto_region 7 with fail
   go_cut [39]from 28 to 38 (fun h7 wx=>h7=(Pr.A4 p.now x.1:Y)/\Dl N t w t p (dX p.now (M.take k)) (fG p.now (M.take k)) (.slice a2 (dX p.now (M.take k)).length e2) (.slice a3 (fG p.now (M.take k)).length e3) mb (fh (dX p.now (M.take k)) false) (fh (dX p.now (M.take k)) true) wx/\bJ wx N t.vW M/\aP F x wx/\bE wx x.2.1 x.1.s.bl)
   case first =>
    by_cases K:x.1.held=true
    ·have V:Pr.A4 p.now x.1=false:=by unfold Pr.A4;rw[K];rfl
     refine az (fun W:World=>W.cell? ⟨F,2,none⟩=some (true:Y)) (m.cell 2 _ P6) fun G=>?_;replace i:=H (i.qn (L5 _ _).drew);replace m:=H (show aP F x w1.drew from m.o);replace S:=H (show bJ w1.drew N t.vW M from S.below (L5 _ _).drew);replace E:=H (E.keep (L5 w1.heap.size w1).drew.size (aG.below (L5 w1.heap.size w1).drew));generalize w1.drew=w2 at *;refine aA 0 1 2 3 ?_;refine aU 4 ?_;refine aU 5 ?_;refine aU 6 ?_;refine aU 7 ?_;refine aU 8 ?_;refine aU 9 ?_;refine aU 10 ?_;refine aQ 11 ?_;refine ay ?_ _;clear G;clear K;go_wp2_with fail
     go_meet
     case rel=>exact⟨P7,i.o,S.o,m.o,E.o⟩
    replace K:x.1.held=false:=by simpa using K
    by_cases c1:x.1.due<=p.now
    ·have V:Pr.A4 p.now x.1=true:=by unfold Pr.A4;rw[K];show decide (x.1.due<=p.now)=true;simp[c1]
     refine az (fun W:World=>W.cell? ⟨F,2,none⟩=some (false:Y)/\W.cell? ⟨F,1,none⟩=some (.int .i64 x.1.due)/\W.cell? ⟨t.B,13,none⟩=some (p.now:Y)) (⟨m.cell 2 _ P6,m.cell 1 _ Z,i.st.cell 13 p.now Z⟩) fun G=>?_;replace i:=H (i.qn (L5 _ _).drew);replace m:=H (show aP F x w1.drew from m.o);replace S:=H (show bJ w1.drew N t.vW M from S.below (L5 _ _).drew);replace E:=H (E.keep (L5 w1.heap.size w1).drew.size (aG.below (L5 w1.heap.size w1).drew));generalize w1.drew=w2 at *;refine aA 0 1 2 3 ?_;refine aA 4 5 6 7 ?_;refine aM 8 9 ?_;refine aQ 10 (v:=.bool true) ?_ (hy:=by intro w P;(obtain⟨z0,z1,z2⟩:=P);go_simp;(try first | omega | (rw[Lj];omega)));refine aQ 11 ?_;refine ay ?_ _;clear G;clear K;go_wp2_with fail
     go_meet
     case rel=>exact⟨P7,i.o,S.o,m.o,E.o⟩
    have V:Pr.A4 p.now x.1=false:=by unfold Pr.A4;rw[K];show decide (x.1.due<=p.now)=false;simp[c1]
    refine az (fun W:World=>W.cell? ⟨F,2,none⟩=some (false:Y)/\W.cell? ⟨F,1,none⟩=some (.int .i64 x.1.due)/\W.cell? ⟨t.B,13,none⟩=some (p.now:Y)) (⟨m.cell 2 _ P6,m.cell 1 _ Z,i.st.cell 13 p.now Z⟩) fun G=>?_;replace i:=H (i.qn (L5 _ _).drew);replace m:=H (show aP F x w1.drew from m.o);replace S:=H (show bJ w1.drew N t.vW M from S.below (L5 _ _).drew);replace E:=H (E.keep (L5 w1.heap.size w1).drew.size (aG.below (L5 w1.heap.size w1).drew));generalize w1.drew=w2 at *;refine aA 0 1 2 3 ?_;refine aA 4 5 6 7 ?_;refine aM 8 9 ?_;refine aQ 10 (v:=.bool false) ?_ (hy:=by intro w P;(obtain⟨z0,z1,z2⟩:=P);go_simp;(try first | omega | (rw[Lu];omega)));refine aQ 11 ?_;refine ay ?_ _;clear G;clear K;go_wp2_with fail
    go_meet
    case rel=>exact⟨P7,i.o,S.o,m.o,E.o⟩
   case rest =>
    obtain⟨rfl,h1,h2,h3,h4⟩:=hcut;clear i S m E;have i:=H h1;have S:=H h2;have m:=H h3;have E:=H h4;clear h1 h2 h3 h4;obtain⟨b,V⟩:∃b,Pr.A4 p.now x.1=b:=⟨_,Z⟩;rw[V]at b3 b4|-;clear V
    cases b
    ·have ax:=b3.o;have b0:=b4.o;rw[L7 N2]at ax b0;have b8:=H (aP.range m.o);have a9:=(L5 wc.heap.size wc).alloc (L6 _) (.cells (dC x).toArray 55);have a5:=H (sL (Ls wc (.cells (dC x).toArray 55)));replace i:=H (i.qn a9);have am:=H (show ∀u∈([x]:List bH),bE (wc.alloc (.cells (dC x).toArray 55)) u.2.1 u.1.s.bl from fun u hu=>by rw[Ly.1 hu];exact E.keep a9.size (aG.below a9));have an:=H (m.below a9);have be:=H (S.below a9);have c5:(fG p.now (M.take k)).length+([x]:List bH).length<=1000000000000:=by have:=cb;show _+1<=_;omega
     go_wp2_with (first | (at_builtin;refine cd _ Z _ _ Z N _ (fG p.now (M.take k)) Z i.l wc.heap.size 0 1 [x] Z a5.o am.o c5 i.st.pa.big ?_) | (refine wpList_load_mid Z 55 _ Z F 0 Z (dC x) _ b8.o Tryz.underlying55 Z dD ?_;(try dsimp only[dC,aX])))
     intro v4 w4 ho hg hb;clear c5 a5 am a9 b8;replace m:=H (show aP F x w4 from(hg.block F an.lt (fun e=>d6.o F e.symm Z)).trans an.o);replace S:=H (be.keep hg.size (i.l.ys hg) (fun J e=>hg.block J (be.lt J e).2 (fun e2=>(i.nl J e2.symm).1 (.inr (.inr (.inr (.inl e)))))));clear be;have b9:=H (i.Ia (x:=x) Kj hg (hb.imp id fun⟨J,h1,h2⟩=>⟨J,h1,PF⟩));clear an ho hg hb i;have i:=b9;clear b9;go_wp2_with fail
     go_roundg (gk-1)
     case measure=>omega
     case rel=>exact⟨k+1,IV,O,by rw[ax,b0];exact i.o,S.o⟩
    have ax:=b3.o;have b0:=b4.o;rw[L9 Z]at ax b0;have b8:=H (aP.range m.o);have a9:=(L5 wc.heap.size wc).alloc (L6 _) (.cells (dC x).toArray 55);have a5:=H (sL (Ls wc (.cells (dC x).toArray 55)));replace i:=H (i.qn a9);have am:=H (show ∀u∈([x]:List bH),bE (wc.alloc (.cells (dC x).toArray 55)) u.2.1 u.1.s.bl from fun u hu=>by rw[Ly.1 hu];exact E.keep a9.size (aG.below a9));have an:=H (m.below a9);have be:=H (S.below a9);have c5:(dX p.now (M.take k)).length+([x]:List bH).length<=1000000000000:=by have:=bd;show _+1<=_;omega
    go_wp2_with (first | (at_builtin;refine cd _ Z _ _ Z N _ (dX p.now (M.take k)) Z i.d wc.heap.size 0 1 [x] Z a5.o am.o c5 i.st.pa.big ?_) | (refine wpList_load_mid Z 55 _ Z F 0 Z (dC x) _ b8.o Tryz.underlying55 Z dD ?_;(try dsimp only[dC,aX])))
    intro v4 w4 ho hg hb;clear c5 a5 am a9 b8;replace m:=H (show aP F x w4 from(hg.block F an.lt (fun e=>bx.o F e.symm Z)).trans an.o);replace S:=H (be.keep hg.size (i.d.ys hg) (fun J e=>hg.block J (be.lt J e).2 (fun e2=>(i.nd J e2.symm).1 (.inr (.inr (.inr (.inl e)))))));clear be;have b9:=H (i.Ht (x:=x) Kj hg (hb.imp id fun⟨J,h1,h2⟩=>⟨J,h1,PF⟩));clear an ho hg hb i;have i:=b9;clear b9;obtain⟨X,a6⟩ | ⟨X,a6⟩:=kC x.1.dst
    focus
     have k0:w4.cell? F=some ((0:Int):Y):=m.cell 0 _ Jk;have m0:=i.Ee 0 _ Z;have f0:=i.GO 0;have ea:fh (dX p.now (M.take k)++[x]) false=true:=by rw[ig,X];simp
     have eb:fh (dX p.now (M.take k)++[x]) true=fh (dX p.now (M.take k)) true:=by rw[ig,X];simp
     have d7:=H (i.flag 0 true (fh (dX p.now (M.take k)++[x]) false) (fh (dX p.now (M.take k)++[x]) true) (by rw[ea,eb];rfl));have bz:nF mb w4 (w4.setCell mb true):=(nF.refl _ _).setCell 0 true
    rotate_left 1
    focus
     have k0:w4.cell? F=some ((1:Int):Y):=m.cell 0 _ Jk;have m0:=i.Ee 1 _ Z;have f0:=i.GO 1;have ea:fh (dX p.now (M.take k)++[x]) true=true:=by rw[ig,X];simp
     have eb:fh (dX p.now (M.take k)++[x]) false=fh (dX p.now (M.take k)) false:=by rw[ig,X];simp
     have d7:=H (i.flag 1 true (fh (dX p.now (M.take k)++[x]) false) (fh (dX p.now (M.take k)++[x]) true) (by rw[ea,eb];rfl));have bz:nF mb w4 (w4.setCell ⟨mb,1,none⟩ true):=(nF.refl _ _).setCell 1 true
    all_goals
     have e0:=H (S.keep bz.size (.Dj bz i.mty D) (fun J e=>bz.block J (S.lt J e).2 ((S.ty J e).ne i.mty D)));clear bz ea eb;go_wp2_with fail
     go_roundg (gk-1)
     case measure=>omega
     case rel=>exact⟨k+1,IV,O,by rw[ax,b0];exact d7.o,e0.o⟩
  have d0:k=M.length:=O
  subst d0;rw[LV]at i|-;have e5:=i.st.free 12;have b1:=i.pair (i.st.pa.setW (.slice none 0 0) [] (World.grownBy.refl _ _) (bJ.nil _ _) (fun _ h=>nomatch h));rw[i.st.eB]at b1;replace b1:=H b1;have cC:(fG p.now M).length<=100000000:=La (M8 _ _) O;have e6:(dX p.now M).length<=100000000:=La (M8 _ _) O;have cF:=H (tf (dX p.now M) false);have cL:=H (tf (dX p.now M) true);go_wp2_with fail;clear e5 i S f7;generalize wr.setCell ⟨t.B,12,none⟩ (.slice none 0 0)=w0 at b1|-;obtain⟨L,hL⟩:∃L,L=fG p.now M:=⟨_,Z⟩;have HL:=H hL;rw[<-hL]at b1 cC|-;clear hL;obtain⟨I,f8⟩:∃I,I=dX p.now M:=⟨_,Z⟩;have cf:=H f8;rw[<-f8]at b1 cF cL e6|-;clear f8;obtain⟨ba,g5⟩:∃b,b=fh I false:=⟨_,Z⟩;obtain⟨bb,g6⟩:∃b,b=fh I true:=⟨_,Z⟩;rw[<-g5]at b1 cF;rw[<-g6]at b1 cL;clear g5 g6
  go_loopg [2,7] L.length (fun g v2 iv wr=>∃(k:Nat) (t1:Ft),iv=((k:Int):Y)/\g+k=L.length/\Dl N t w t1 { p with wire:=(gO p.now I (L.take k)).map (·.1) } (I++fH p.now I (L.take k)) L v2 (.slice a3 L.length e3) mb ba bb wr)
  case atStart=>exact⟨0,_,Z,O,by show Dl _ _ _ _ _ (I++[]) _ _ _ _ _ _ _;rw[LP];exact b1.o⟩
  case round =>
   obtain⟨k,t1,rfl,ca,c3⟩:=hrel;have i:=H c3;clear c3 b1;obtain⟨a4,e4,d1⟩:=i.d.val';obtain⟨n2,g7⟩:∃n2,n2=(I++fH p.now I (L.take k)).length:=⟨_,Z⟩;rw[<-g7]at d1;subst d1;clear g7;by_cases U:k<L.length
   ·have d5:(k:Int)<(L.length:Int):=by omega
    have b3:=H (sR p.now I L k U);have b4:=H (sU p.now I L k U);obtain⟨g,cg,b6,g4,T⟩:=i.l.at U;obtain⟨rfl,rfl⟩:a3=some ⟨g,0,none⟩/\e3=cg:=by cases b6;exact⟨Z,Z⟩
    have E:=H (i.l.2 L[k] (LS U));have d8:0<=L[k].1.due/\L[k].1.due<=1000100:=dn.o L[k].1 (by rw[<-d3.o];exact Nq (M3.1 (show L[k]∈fG p.now M from by rw[<-HL.o];exact LS U)).1);obtain⟨x,hx⟩:∃x,x=L[k]:=⟨_,Z⟩;rw[<-hx]at T E b3 b4 d8;obtain⟨e7,e8⟩:=d8;clear hx b6;have b7:=H (me T);clear T
    go_wp2_with (refine wpList_load_mid Z 55 _ Z g (k*16) Z (dC x) _ b7.o Tryz.underlying55 Z dD ?_;(try dsimp only[dC,aX]))
    have bd:(I++fH p.now I (L.take k)).length<=200000000:=by rw[Lc];have:(fH p.now I (L.take k)).length<=(L.take k).length:=M8 _ _;rw[Lg]at this;omega
    have e9:=H (show((gO p.now I (L.take k)).map (·.1)).length<=100000000 from by rw[LM];exact La (M8 _ _) IX);have ch:=H (fun(e:t1.D wr.heap.size)=>MG _ (i.st.pa.GC _ e).1);have cM:=i.st.size;clear b7;change Code.wp _ _ _ _ (wr.alloc (.cells (dC x).toArray 55));have av:=(L5 wr.heap.size wr).alloc (L6 _) (.cells (dC x).toArray 55);have m:=H (aP.new wr x);have bx:=H (fun J (e:_=some J)=>Nt (i.d.lt J e).2);replace i:=H (i.qn av);replace E:=H (E.keep av.size (aG.below av));clear av;generalize hF:wr.heap.size=F at m bx ch cM|-;generalize wr.alloc (.cells (dC x).toArray 55)=w1 at *;clear hF
    go_upto_region 16 with fail
    go_cut [81]from 64 to 80 (fun h8 wx=>h8=(Pr.Cd p.now (I.map (·.1)) x.1:Y)/\Dl N t w t1 { p with wire:=(gO p.now I (L.take k)).map (·.1) } (I++fH p.now I (L.take k)) L (.slice a4 n2 e4) (.slice (some ⟨g,0,none⟩) L.length e3) mb ba bb wx/\aP F x wx/\bE wx x.2.1 x.1.s.bl)
    case first =>
     by_cases K:x.1.held=true
     ·obtain⟨X,a6⟩ | ⟨X,a6⟩:=kC x.1.dst
      focus
       by_cases A:ba=true
       ·have V:Pr.Cd p.now (I.map (·.1)) x.1=true:=by unfold Pr.Cd;rw[K,X,<-cF.o,A];rfl
        refine az (fun W:World=>W.cell? ⟨F,2,none⟩=some (true:Y)/\W.cell? F=some ((0:Int):Y)/\W.cell? mb=some (true:Y)) (⟨m.cell 2 _ P6,m.cell 0 _ Jk,Kk⟩) fun G=>?_;replace i:=H (i.qn (L5 _ _).drew);replace m:=H (show aP F x w1.drew from m.o);replace E:=H (E.keep (L5 w1.heap.size w1).drew.size (aG.below (L5 w1.heap.size w1).drew));generalize w1.drew=w2 at *;refine aA 0 1 2 3 ?_;refine aA 4 5 6 7 ?_;refine aU 8 ?_;refine aU 9 ?_;refine aU 10 ?_;refine aU 11 ?_;refine aU 12 ?_;refine aU 13 ?_;refine aU 14 ?_;refine aU 15 ?_;refine aM 16 17 ?_;refine ay ?_ _;clear G;clear K a6 X A;go_wp2_with fail
        go_meet
        case rel=>exact⟨P7,i.o,m.o,E.o⟩
       replace A:ba=false:=by simpa using A
       by_cases c1:x.1.due+30<=p.now
       ·have V:Pr.Cd p.now (I.map (·.1)) x.1=true:=by unfold Pr.Cd;rw[K,X,<-cF.o,A];show decide (x.1.due+30<=p.now)=true;simp[c1]
        refine az (fun W:World=>W.cell? ⟨F,2,none⟩=some (true:Y)/\W.cell? F=some ((0:Int):Y)/\W.cell? mb=some (false:Y)/\W.cell? ⟨F,1,none⟩=some (.int .i64 x.1.due)/\W.cell? ⟨t.B,13,none⟩=some (p.now:Y)) (⟨m.cell 2 _ P6,m.cell 0 _ Jk,Kk,m.cell 1 _ Z,i.st.cell 13 p.now Z⟩) fun G=>?_;replace i:=H (i.qn (L5 _ _).drew);replace m:=H (show aP F x w1.drew from m.o);replace E:=H (E.keep (L5 w1.heap.size w1).drew.size (aG.below (L5 w1.heap.size w1).drew));generalize w1.drew=w2 at *;refine aA 0 1 2 3 ?_;refine aA 4 5 6 7 ?_;refine aM 8 9 ?_;refine aQ 10 (v:=.int .i64 (x.1.due+30)) ?_ (hy:=PG);refine aA 11 12 13 14 ?_;refine aQ 15 (v:=.bool true) ?_ (hy:=PT);refine aM 16 17 ?_;refine ay ?_ _;clear G;clear K a6 X A c1;go_wp2_with fail
        go_meet
        case rel=>exact⟨P7,i.o,m.o,E.o⟩
       have V:Pr.Cd p.now (I.map (·.1)) x.1=false:=by unfold Pr.Cd;rw[K,X,<-cF.o,A];show decide (x.1.due+30<=p.now)=false;simp[c1]
       refine az (fun W:World=>W.cell? ⟨F,2,none⟩=some (true:Y)/\W.cell? F=some ((0:Int):Y)/\W.cell? mb=some (false:Y)/\W.cell? ⟨F,1,none⟩=some (.int .i64 x.1.due)/\W.cell? ⟨t.B,13,none⟩=some (p.now:Y)) (⟨m.cell 2 _ P6,m.cell 0 _ Jk,Kk,m.cell 1 _ Z,i.st.cell 13 p.now Z⟩) fun G=>?_
      rotate_left 1
      focus
       by_cases A:bb=true
       ·have V:Pr.Cd p.now (I.map (·.1)) x.1=true:=by unfold Pr.Cd;rw[K,X,<-cL.o,A];rfl
        refine az (fun W:World=>W.cell? ⟨F,2,none⟩=some (true:Y)/\W.cell? F=some ((1:Int):Y)/\W.cell? ⟨mb,1,none⟩=some (true:Y)) (⟨m.cell 2 _ P6,m.cell 0 _ Jk,Kl⟩) fun G=>?_;replace i:=H (i.qn (L5 _ _).drew);replace m:=H (show aP F x w1.drew from m.o);replace E:=H (E.keep (L5 w1.heap.size w1).drew.size (aG.below (L5 w1.heap.size w1).drew));generalize w1.drew=w2 at *;refine aA 0 1 2 3 ?_;refine aA 4 5 6 7 ?_;refine aU 8 ?_;refine aU 9 ?_;refine aU 10 ?_;refine aU 11 ?_;refine aU 12 ?_;refine aU 13 ?_;refine aU 14 ?_;refine aU 15 ?_;refine aM 16 17 ?_;refine ay ?_ _;clear G;clear K a6 X A;go_wp2_with fail
        go_meet
        case rel=>exact⟨P7,i.o,m.o,E.o⟩
       replace A:bb=false:=by simpa using A
       by_cases c1:x.1.due+30<=p.now
       ·have V:Pr.Cd p.now (I.map (·.1)) x.1=true:=by unfold Pr.Cd;rw[K,X,<-cL.o,A];show decide (x.1.due+30<=p.now)=true;simp[c1]
        refine az (fun W:World=>W.cell? ⟨F,2,none⟩=some (true:Y)/\W.cell? F=some ((1:Int):Y)/\W.cell? ⟨mb,1,none⟩=some (false:Y)/\W.cell? ⟨F,1,none⟩=some (.int .i64 x.1.due)/\W.cell? ⟨t.B,13,none⟩=some (p.now:Y)) (⟨m.cell 2 _ P6,m.cell 0 _ Jk,Kl,m.cell 1 _ Z,i.st.cell 13 p.now Z⟩) fun G=>?_;replace i:=H (i.qn (L5 _ _).drew);replace m:=H (show aP F x w1.drew from m.o);replace E:=H (E.keep (L5 w1.heap.size w1).drew.size (aG.below (L5 w1.heap.size w1).drew));generalize w1.drew=w2 at *;refine aA 0 1 2 3 ?_;refine aA 4 5 6 7 ?_;refine aM 8 9 ?_;refine aQ 10 (v:=.int .i64 (x.1.due+30)) ?_ (hy:=PG);refine aA 11 12 13 14 ?_;refine aQ 15 (v:=.bool true) ?_ (hy:=PT);refine aM 16 17 ?_;refine ay ?_ _;clear G;clear K a6 X A c1;go_wp2_with fail
        go_meet
        case rel=>exact⟨P7,i.o,m.o,E.o⟩
       have V:Pr.Cd p.now (I.map (·.1)) x.1=false:=by unfold Pr.Cd;rw[K,X,<-cL.o,A];show decide (x.1.due+30<=p.now)=false;simp[c1]
       refine az (fun W:World=>W.cell? ⟨F,2,none⟩=some (true:Y)/\W.cell? F=some ((1:Int):Y)/\W.cell? ⟨mb,1,none⟩=some (false:Y)/\W.cell? ⟨F,1,none⟩=some (.int .i64 x.1.due)/\W.cell? ⟨t.B,13,none⟩=some (p.now:Y)) (⟨m.cell 2 _ P6,m.cell 0 _ Jk,Kl,m.cell 1 _ Z,i.st.cell 13 p.now Z⟩) fun G=>?_
      all_goals
       replace i:=H (i.qn (L5 _ _).drew);replace m:=H (show aP F x w1.drew from m.o);replace E:=H (E.keep (L5 w1.heap.size w1).drew.size (aG.below (L5 w1.heap.size w1).drew));generalize w1.drew=w2 at *;refine aA 0 1 2 3 ?_;refine aA 4 5 6 7 ?_;refine aM 8 9 ?_;refine aQ 10 (v:=.int .i64 (x.1.due+30)) ?_ (hy:=PG);refine aA 11 12 13 14 ?_;refine aQ 15 (v:=.bool false) ?_ (hy:=by intro w P;(obtain⟨z0,z1,z2,z3,z4⟩:=P);go_simp;(try first | omega | (rw[Lu];omega)));refine aM 16 17 ?_;refine ay ?_ _;clear G;clear K a6 X A c1;go_wp2_with fail
       go_meet
       case rel=>exact⟨P7,i.o,m.o,E.o⟩
     replace K:x.1.held=false:=by simpa using K
     have V:Pr.Cd p.now (I.map (·.1)) x.1=false:=by unfold Pr.Cd;rw[K];rfl
     refine az (fun W:World=>W.cell? ⟨F,2,none⟩=some (false:Y)) (m.cell 2 _ P6) fun G=>?_;replace i:=H (i.qn (L5 _ _).drew);replace m:=H (show aP F x w1.drew from m.o);replace E:=H (E.keep (L5 w1.heap.size w1).drew.size (aG.below (L5 w1.heap.size w1).drew));generalize w1.drew=w2 at *;refine aM 0 1 ?_;refine aQ 2 ?_;refine aU 3 ?_;refine aU 4 ?_;refine aU 5 ?_;refine aU 6 ?_;refine aU 7 ?_;refine aU 8 ?_;refine aU 9 ?_;refine aU 10 ?_;refine aU 11 ?_;refine aU 12 ?_;refine aU 13 ?_;refine aU 14 ?_;refine aU 15 ?_;refine aU 16 ?_;refine aQ 17 ?_;refine ay ?_ _;clear G;clear K;go_wp2_with fail
     go_meet
     case rel=>exact⟨P7,i.o,m.o,E.o⟩
    case rest =>
     obtain⟨rfl,h1,h3,h4⟩:=hcut;clear i m E;have i:=H h1;have m:=H h3;have E:=H h4;clear h1 h3 h4;obtain⟨b,V⟩:∃b,Pr.Cd p.now (I.map (·.1)) x.1=b:=⟨_,Z⟩;rw[V]at b3 b4|-;clear V
     cases b
     ·have ax:=H b3.o;have b0:=H b4.o;have HP:=H (i.IC m.o E.o cM ch.o);have HD:=H i.o;clear i m E ch;obtain⟨tc,g8⟩:∃tc,tc=t1:=⟨_,Z⟩;rw[<-g8]at HP HD;clear g8
      go_upto_region 18 with fail
      refine az (aP F x) (HP.row) fun G=>?_;replace HP:=H (HP.qn (L5 _ _).drew);replace HD:=H (HD.qn (L5 _ _).drew);generalize h9:World.drew _=w9 at HP HD G|-;clear h9;have cS:w9.cell? ⟨t.B,12,none⟩=some tc.vW:=HP.st.cell 12 _ Z;have hb:=(L5 w9.heap.size w9).alloc (L6 _) (.cells (bM ([x]:List bH)).toArray 55);have cV:t.B<w9.heap.size:=by rw[<-HP.st.eB];exact HP.st.pa.lt
      have ec:=(Li (a:=⟨t.B,12,none⟩) (hb.block t.B cV)).trans cS;refine aA 0 1 2 3 ?_;refine rm 5 (dC x) (fun _ h=>aP.range h) Tryz.underlying55 dD ?_ (y:=by((try simp only[Act.put,Lf,Lk,Lm,dC,aX]);(try rfl)));refine wpAnyH_ready (rs:=[4,6]) IL IK ?_;refine AllReadyH.cons (by simp only[Lx,Lv,Lr];rfl) (fun Kq n=> ?_) (AllReadyH.cons (by simp only[Lx,Lv,Lr];rfl) (fun Kq n=> ?_) AllReadyH.nil)
      focus
       go_simp;refine n.out _ _ (G) ?_;clear n Kq G;refine fun G=>aW ?_;refine aY 6 fun Kq n=> ?_;go_simp;refine n.out _ _ ((aP.below HP.row hb)) ?_;clear n Kq G;refine fun G=>aW ?_
      rotate_left 1
      focus
       go_simp;refine n.out _ _ ((aP.below HP.row hb)) ?_;clear n Kq G;refine fun G=>aW ?_;refine aY 4 fun Kq n=> ?_;go_simp;refine n.out _ _ (G) ?_;clear n Kq G;refine fun G=>aW ?_
      all_goals
       as_aux_lemma =>
        have ag:=H (HP.qn hb);have a5:=H (gL (M:=[x]) (Ls w9 (.cells (bM ([x]:List bH)).toArray 55)));obtain⟨LL,cC,g9⟩:=ag.st.pa.wire;have ci:=H cC;have d9:=H g9;have hlen:LL.length=((gO p.now I (L.take k)).map (·.1)).length:=by rw[<-LM (f:=(·.1)),cC]
        clear cC g9;have da:=H (show LL.length+1<=1000000000000 by rw[hlen];have:=e9.o;omega);clear hlen;have am:=H (show ∀u∈([x]:List bH),bE (w9.alloc (.cells (bM ([x]:List bH)).toArray 55)) u.2.1 u.1.s.bl from fun u hu=>by rw[show u=x by simpa using hu];exact ag.bl);refine aY 7 fun Kq n=> ?_;refine bw Z _ _ Z N _ LL IO d9.o w9.heap.size 0 1 [x] IO a5.o am.o da.o ag.st.pa.big ?_;intro v4 f9 f3 f4 c2;obtain⟨a4,c4,d1,-,-⟩:=f3.val;obtain⟨n4,h0⟩:∃n4,n4=(LL++[x]).length:=⟨_,Z⟩;rw[<-h0]at d1;subst d1;clear h0;have HK:=H (ag.ED f4);have cl:=H (ag.wire _ (LL++[x]) f4 f3 (fun J c8=>by rcases c2 with c2 | ⟨k2,c2,g0⟩;exact .inl (by rw[<-c2];exact c8);exact .inr (by rw[c2]at c8;cases c8;exact g0)));have cX:=(HD.qn hb).pair (ag.st.pa.setW _ (LL++[x]) f4 f3 (fun J c8=>by rcases c2 with c2 | ⟨k2,c2,g0⟩;exact .inl (by rw[<-c2];exact c8);exact .inr (by rw[c2]at c8;cases c8;exact g0)));rw[ag.st.eB]at cX;replace cX:=H cX;have cT:f9.cell? ⟨t.B,12,none⟩=some tc.vW:=(Li (a:=⟨t.B,12,none⟩) HK.1).trans (ag.st.cell 12 _ Z);have gT:f9.frozen? ⟨t.B,12,none⟩=false:=by have U:=HK.1;rw[<-ag.st.eB]at U|-;exact LW _ _ _ _ _ (U.trans ag.st.pa.blk)
        have cY:aP F x f9:=HK.2.trans ag.row;clear f3 f4 c2;refine n.out _ _ (cY) ?_;clear n Kq G;refine fun G=>aW ?_;refine aM 8 9 ?_;refine aY 10 fun Kq n=> ?_;go_simp;refine n.out _ _ (cl.row) ?_;clear n Kq G;refine fun G=>aW ?_;refine ay ?_ _;clear G cT gT cY cS ec hb cV;replace HP:=H (cl.GD (q':=({ p with wire:=(gO p.now I (L.take k)++[x]).map (·.1) }:Pr)) (by rw[LQ,LQ,ci.o]));replace HD:=H (cX.GD (q':=({ p with wire:=(gO p.now I (L.take k)++[x]).map (·.1) }:Pr)) (by rw[LQ,LQ,ci.o]));clear cX;clear cl HK ag a5 d9 da am ci;go_wp2_with fail
        go_roundg (gk-1)
        case measure=>omega
        case rel=>exact⟨k+1,_,IV,O,by rw[ax.o,b0.o,L7 N2,L7 N2];exact HD.o⟩
     have ax:=b3.o;have b0:=b4.o;rw[L9 Z]at ax b0;have b8:=H (aP.range m.o);have a9:=(L5 wc.heap.size wc).alloc (L6 _) (.cells (dC x).toArray 55);have a5:=H (sL (Ls wc (.cells (dC x).toArray 55)));replace i:=H (i.qn a9);have am:=H (show ∀u∈([x]:List bH),bE (wc.alloc (.cells (dC x).toArray 55)) u.2.1 u.1.s.bl from fun u hu=>by rw[Ly.1 hu];exact E.keep a9.size (aG.below a9));have an:=H (m.below a9);have c5:(I++fH p.now I (L.take k)).length+([x]:List bH).length<=1000000000000:=by have:=bd;show _+1<=_;omega
     go_wp2_with (first | (at_builtin;refine cd _ Z _ _ Z N _ (I++fH p.now I (L.take k)) Z i.d wc.heap.size 0 1 [x] Z a5.o am.o c5 i.st.pa.big ?_) | (refine wpList_load_mid Z 55 _ Z F 0 Z (dC x) _ b8.o Tryz.underlying55 Z dD ?_;(try dsimp only[dC,aX])))
     intro v4 w4 ho hg hb;clear c5 a5 am a9 b8;replace m:=H (show aP F x w4 from(hg.block F an.lt (fun e=>bx.o F e.symm Z)).trans an.o);have b9:=H (i.Ht (x:=x) Kj hg (hb.imp id fun⟨J,h1,h2⟩=>⟨J,h1,PF⟩));clear an ho hg hb i;have i:=b9;clear b9;go_wp2_with fail
     go_roundg (gk-1)
     case measure=>omega
     case rel=>exact⟨k+1,t1,IV,O,by rw[ax,b0,<-LO];exact i.o⟩
   have d0:k=L.length:=O
   subst d0;rw[LV]at i;obtain⟨DD,g2⟩:∃DD,DD=I++fH p.now I L:=⟨_,Z⟩;rw[<-g2]at i;have dc:=H g2;clear g2;obtain⟨_,_,i0⟩:=i.d.val'
   cases i0
   have ed:DD.length<=200000000:=by rw[dc.o,Lc];have:(fH p.now I L).length<=L.length:=M8 _ _;omega
   have c6:=H (BS d3.o cf.out HL.o dc.o);obtain⟨q1,g3⟩:∃q1:Pr,q1={ p with wire:=(gO p.now I L).map (·.1) }:=⟨_,Z⟩;rw[<-g3]at i;have cn:=H g3;clear g3;have eg:=H (Pr.EB HK.o);have el:=HK.Ei;have c7:=H (show q1={ p with wire:=p.rest }from by rw[cn.out,c6.2]);go_wp2_with fail
   go_loopg [9] DD.length (fun g iv wr=>∃(k:Nat) (t2:Ft),iv=((k:Int):Y)/\g+k=DD.length/\Dl N t w t2 (((DD.take k).map (·.1)).foldl Pr.kd q1) DD L (.slice a4 DD.length e4) (.slice a3 L.length e3) mb ba bb wr)
   case atStart=>exact⟨0,_,Z,O,i.o⟩
   case round =>
    obtain⟨k,t2,rfl,ca,c3⟩:=hrel;clear i;have i:=H c3;clear c3;by_cases U:k<DD.length
    ·have d5:(k:Int)<(DD.length:Int):=by omega
     have b5:=H (vY DD k U q1);obtain⟨g,cg,b6,g4,T⟩:=i.d.at U;obtain⟨rfl,rfl⟩:a4=some ⟨g,0,none⟩/\e4=cg:=by cases b6;exact⟨Z,Z⟩
     have em:=H (i.nd g Z).1;have E:=H (i.d.2 DD[k] (LS U));have di:=H (show DD[k].1∈p.due from by rw[<-c6.1];exact Nq (LS U));have c0:((DD.take k).map (·.1)).length=k:=by rw[LM,Lg];omega
     have ab:=H (Pr.F9 ((DD.take k).map (·.1)) (p:=q1) (by rw[c7.o];exact eg.o) (fun f hf=>by obtain⟨y,hy,rfl⟩:=Mg.1 hf;exact HK.wire _ (Pr.DW (by rw[<-c6.1];exact Nq (Nl hy)))));have dk:=H (Pr.Ml.fold ((DD.take k).map (·.1)) (show q1.Ml from by rw[c7.o];exact HM.o));have a5:=H ((Pr.Ea ((DD.take k).map (·.1)) q1).1.trans (by rw[c7.o]));rw[c0]at ab;clear c0;generalize ((DD.take k).map (·.1)).foldl Pr.kd q1=qk at i b5 ab dk a5;obtain⟨x,hx⟩:∃x,x=DD[k]:=⟨_,Z⟩;rw[<-hx]at T E di b5;clear hx b6;have cs:=H (HK.wire x.1 (Pr.DW di.o));have a7:=H (td ab.o dk.o cs.o O O);have b7:=H (yW T);have f5:wr.cell? ⟨g,k*16,none⟩=some (bI x.1.dst:Y):=T 0 D _ Z;clear T;have ac:=H HK.Cq;obtain⟨X,a6⟩ | ⟨X,a6⟩:=kC x.1.dst
     focus
      rw[a6]at f5;have bk:=i.st.cell 0 t2.fa.C Z;have a7:=H (show(qk.v6 false (qk.a.c.receive qk.now x.1.s).1).log.length+(qk.a.c.receive qk.now x.1.s).2.length<=500000000000/\(qk.v6 false (qk.a.c.receive qk.now x.1.s).1).wire.length+2*(qk.a.c.receive qk.now x.1.s).2.length<=500000000000/\(qk.v6 false (qk.a.c.receive qk.now x.1.s).1).many+(qk.a.c.receive qk.now x.1.s).2.length<=1000000000000 from by have:=a7.o;rw[X]at this;exact this);have b2:=H (show qk.kd x.1=(qk.v6 false (qk.a.c.receive qk.now x.1.s).1).put false (qk.a.c.receive qk.now x.1.s).2 from by unfold Pr.kd;rw[X];rfl);rw[a5.o]at a7 b2;go_wp2_with fail;clear bk f5;refine az (fun W:World=>W.cell? t.B=some (t2.fa.C:Y)/\W.cell? ⟨t.B,13,none⟩=some (p.now:Y)/\W.rangeAt g (k*16+3) (aX (x.1.s,x.2.1,x.2.2))) (⟨i.st.cell 0 t2.fa.C Z,Pu,b7.o⟩) fun G=>?_;replace i:=H (i.qn (L5 _ _).drew);replace E:=H (E.keep (L5 wr.heap.size wr).drew.size (aG.below (L5 wr.heap.size wr).drew));generalize wr.drew=w3 at i E G|-;refine aA 0 1 2 3 ?_;refine aA 4 5 6 7 ?_;refine aA 8 9 10 11 ?_;refine aA 12 13 14 15 ?_;refine aQ 16 ?_;refine rm 17 (aX (x.1.s,x.2.1,x.2.2)) (fun _ h=>h.2.2) Tryz.underlying53 ie ?_ (y:=by((try simp only[Act.put,Lf,Lk,Lm,aX]);(try rfl)));refine aY 18 fun Kq n=> ?_;go_simp;refine(eY t2.fa qk.a.c p.now x.1.s x.2.1 x.2.2 _ i.st.pa.a ab.a.c ac.o cs.o E.o).mono ?_;rintro e w4⟨v,gg,rfl,hl,hc,e1,f1⟩;have k4:=i.st.pa.FQ false gg _ hc e1 f1;have bn:=k4.fr.block g (i.d.lt g Z).2 (i.nd g Z).1;replace i:=H (i.pair k4);have bo:=H hl;clear hl hc e1 f1 k4;go_simp;refine n.out _ _ (⟨i.st.cell 0 t2.fa.C Z,Pu,fun j u hj=>(Li (a:=⟨g,k*16+3+j,none⟩) bn).trans (G.2.2 j u hj)⟩) ?_;clear n Kq G;refine fun G=>aW ?_;have a0:=cO N _ _ false _ v _ _ i.st.pa bo.o a7.1 a7.2.1 a7.2.2 PS;rw[i.st.eB,show bI false=0 from Z]at a0;replace a0:=H a0;refine aY 19 fun Kq n=> ?_;go_simp;refine(a0.o).mono ?_;rintro e w5⟨rfl,t5,k5⟩;have bu:=k5.fr.block g (i.d.lt g Z).2 (i.nd g Z).1;have bv:=k5.eC.1;replace i:=H (i.pair k5);clear k5;go_simp;refine n.out _ _ (⟨(i.st.cell 0 t5.fa.C Z).trans (by rw[bv];rfl),(i.st.cell 13 _ Z).trans (congrArg (fun z=>some (Value.int .i64 z)) ((cD _ _ _).2.2.1.trans a5.o)),fun j u hj=>(Li (a:=⟨g,k*16+3+j,none⟩) bu).trans (G.2.2 j u hj)⟩) (fun aa=> ?_)
     rotate_left 1
     focus
      rw[a6]at f5;have bk:=i.st.cell 6 t2.fb.C Z;have a7:=H (show(qk.v6 true (qk.b.c.receive qk.now x.1.s).1).log.length+(qk.b.c.receive qk.now x.1.s).2.length<=500000000000/\(qk.v6 true (qk.b.c.receive qk.now x.1.s).1).wire.length+2*(qk.b.c.receive qk.now x.1.s).2.length<=500000000000/\(qk.v6 true (qk.b.c.receive qk.now x.1.s).1).many+(qk.b.c.receive qk.now x.1.s).2.length<=1000000000000 from by have:=a7.o;rw[X]at this;exact this);have b2:=H (show qk.kd x.1=(qk.v6 true (qk.b.c.receive qk.now x.1.s).1).put true (qk.b.c.receive qk.now x.1.s).2 from by unfold Pr.kd;rw[X];rfl);rw[a5.o]at a7 b2;go_wp2_with fail;clear bk f5;refine az (fun W:World=>W.cell? ⟨t.B,6,none⟩=some (t2.fb.C:Y)/\W.cell? ⟨t.B,13,none⟩=some (p.now:Y)/\W.rangeAt g (k*16+3) (aX (x.1.s,x.2.1,x.2.2))) (⟨i.st.cell 6 t2.fb.C Z,Pu,b7.o⟩) fun G=>?_;replace i:=H (i.qn (L5 _ _).drew);replace E:=H (E.keep (L5 wr.heap.size wr).drew.size (aG.below (L5 wr.heap.size wr).drew));generalize wr.drew=w3 at i E G|-;refine aA 0 1 2 3 ?_;refine aA 4 5 6 7 ?_;refine aA 8 9 10 11 ?_;refine aA 12 13 14 15 ?_;refine aQ 16 ?_;refine rm 17 (aX (x.1.s,x.2.1,x.2.2)) (fun _ h=>h.2.2) Tryz.underlying53 ie ?_ (y:=by((try simp only[Act.put,Lf,Lk,Lm,aX]);(try rfl)));refine aY 18 fun Kq n=> ?_;go_simp;refine(eY t2.fb qk.b.c p.now x.1.s x.2.1 x.2.2 _ i.st.pa.b ab.b.c ac.o cs.o E.o).mono ?_;rintro e w4⟨v,gg,rfl,hl,hc,e1,f1⟩;have k4:=i.st.pa.FQ true gg _ hc e1 f1;have bn:=k4.fr.block g (i.d.lt g Z).2 (i.nd g Z).1;replace i:=H (i.pair k4);have bo:=H hl;clear hl hc e1 f1 k4;go_simp;refine n.out _ _ (⟨i.st.cell 6 t2.fb.C Z,Pu,fun j u hj=>(Li (a:=⟨g,k*16+3+j,none⟩) bn).trans (G.2.2 j u hj)⟩) ?_;clear n Kq G;refine fun G=>aW ?_;have a0:=cO N _ _ true _ v _ _ i.st.pa bo.o a7.1 a7.2.1 a7.2.2 PS;rw[i.st.eB,show bI true=1 from Z]at a0;replace a0:=H a0;refine aY 19 fun Kq n=> ?_;go_simp;refine(a0.o).mono ?_;rintro e w5⟨rfl,t5,k5⟩;have bu:=k5.fr.block g (i.d.lt g Z).2 (i.nd g Z).1;have bv:=k5.eC.2.1;replace i:=H (i.pair k5);clear k5;go_simp;refine n.out _ _ (⟨(i.st.cell 6 t5.fb.C Z).trans (by rw[bv];rfl),(i.st.cell 13 _ Z).trans (congrArg (fun z=>some (Value.int .i64 z)) ((cD _ _ _).2.2.1.trans a5.o)),fun j u hj=>(Li (a:=⟨g,k*16+3+j,none⟩) bu).trans (G.2.2 j u hj)⟩) (fun aa=> ?_)
     all_goals
      clear n Kq G;refine aW ?_;have G:=aa;clear aa;refine ay ?_ _;clear G;go_wp2_with fail
      go_roundg (gk-1)
      case measure=>omega
      case rel=>exact⟨k+1,_,IV,O,by rw[b5.o,b2.o];exact i.o⟩
    have d0:k=DD.length:=O
    subst d0;rw[LV,c6.1,c7.o]at i;go_wp2_with fail
    go_end0
    exact⟨Z,t2,by rw[HR.o];exact i.st⟩
end
section
set_option maxHeartbeats 8000000
set_option maxRecDepth 100000
open Go.RowKit Go.Shelf
theorem eH {X:Pr}{i:Bool}{l:List Sg}{q r:Int}(h:Pr.Fit (X.put i l) q r)(hw:X.wire.length<=400000000)(a:X.Ml)(b:r<=102000000000) :
  X.log.length+l.length<=500000000000/\X.wire.length+2*l.length<=500000000000/\X.many+l.length<=1000000000000:=by
 have h1:=h.llen;have h2:=(jz i l X).1;have c:X.many=X.log.length:=a;omega
theorem Pr.Ml.deliver {p:Pr}(h:p.Ml):p.deliver.Ml:=Pr.Ml.fold _ (show Pr.Ml { p with wire:=p.rest }from h)
theorem Pr.Ml.kp {p:Pr}(h:p.Ml)(i:Bool):(p.kp i).Ml:=Pr.Ml.put (h.kl _ _) _ _
theorem Pr.Ml.tick {p:Pr}(h:p.Ml):p.tick.Ml:=((Pr.Ml.deliver (show Pr.Ml { p with now:=p.now+1 }from h)).kp false).kp true
def rU (p:Pr):Nat->Pr
 | 0=>p
 | 1=>p.kp false
 | _=>(p.kp false).kp true
theorem cq (N:Nat) (t:Ft) (p:Pr) (w:World) (q r:Int) (h:C9 N t p w) (y:Pr.Fit p q r) (hq:q<=90000000) (hr:r<=90000000000) (hm:p.Ml) (hn:p.now+1<=1000000) :
  Calls Tryz.prog 17 #[t.B] w (kh N t w p.tick):=by
 have bc:=y.now;obtain⟨ak,al⟩:=bc;have L:=H (h.set 13 (p.now+1:Int) { p with now:=p.now+1 } Z Z Z Z Z Z);have a1:=h.cell 13 p.now Z;have ei:=h.free 13;have c8:=H (show Pr.Fit { p with now:=p.now+1 } q r from⟨y.a,y.b,⟨IN,hn⟩,y.wire,y.due,y.log,y.q,y.r⟩);obtain⟨p0,u⟩:∃p0:Pr,p0={ p with now:=p.now+1 }:=⟨_,Z⟩;rw[<-u]at L c8;have cw:=H (show p0.Ml from by rw[u];exact hm);have HR:=H (show p.tick=rU p0.deliver 2 from by rw[u];rfl);have M:p0.now=p.now+1:=by rw[u]
 have dl:=H M;clear u h y hm M
 go_enter Tryz.func17,Tryz.ntmps17
 go_wp2_with fail;clear a1 ei;generalize w.setCell ⟨t.B,13,none⟩ (p.now+1:Int)=w1 at L|-;refine(pT N t p0 w1 q r L.pa c8.o O O cw.o).mono ?_;rintro e w2⟨rfl,t1,k1⟩;have dT:=H (L.trans k1);clear k1 L;have P:=H (Pr.DS c8.o);have d0:=H cw.deliver;have d1:=H (show p0.deliver.now=p.now+1 from((Pr.Ea _ _).1).trans dl.o);obtain⟨j,S⟩:∃j,j=p0.deliver:=⟨_,Z⟩;rw[<-S]at dT P d0 d1 HR;clear S c8 cw dl;go_wp2_with fail
 go_loopg [2] 2 (fun g iv wr=>∃(k:Nat) (m:Ft),iv=((k:Int):Y)/\g+k=2/\t7 N t w m (rU j k) wr)
 case atStart=>exact⟨0,t1,Z,Z,dT.o⟩
 case round =>
  obtain⟨k,m,rfl,ca,T⟩:=hrel;have d:=H T;clear T dT;have a2:k=0\/k=1\/k=2:=O
  rcases a2 with a3 | a4 | a5
  ·subst a3;have E:=H (show Pr.Fit (rU j 0) _ _ from P.o);have U:=H (show Pr.Fit ((rU j 0).kp false) _ _ from Pr.C8 P.o false);have V:=H (show(rU j 0).Ml from d0.o);have n:=H (show(rU j 0).now=p.now+1 from d1.o);have b5:=H (show rU j 1=(rU j 0).kp false from Z);generalize rU j 0=pk at d E U V n b5;have b2:=H (show pk.kp false=(pk.v6 false (pk.a.c.tick (p.now+1)).1).put false (pk.a.c.tick (p.now+1)).2 from by rw[<-n.o];rfl);have F:=E.Ei;have I:=H (eH (X:=pk.v6 false (pk.a.c.tick (p.now+1)).1) (i:=false) (l:=(pk.a.c.tick (p.now+1)).2) (by rw[<-b2.o];exact U.o) (by show pk.wire.length<=400000000;omega) (V.kl false _) O);clear F;have ac:=H (show aI (p.now+1)from by unfold aI;omega);have bk:=d.cell 0 m.fa.C Z;go_wp2_with fail;clear bk;refine az (fun W:World=>W.cell? t.B=some (m.fa.C:Y)/\W.cell? ⟨t.B,13,none⟩=some ((p.now+1:Int):Y)) (⟨d.cell 0 m.fa.C Z,K0⟩) fun s=>?_;replace d:=H (d.qn (L5 _ _).drew);generalize wr.drew=w3 at d s|-;refine aA 0 1 2 3 ?_;refine aA 4 5 6 7 ?_;refine aA 8 9 10 11 ?_;refine aQ 12 ?_;refine aY 13 fun J f=> ?_;go_simp;refine(oE m.fa pk.a.c (p.now+1) _ d.pa.a E.a.c ac.o).mono ?_;rintro e w4⟨v,rfl,hl,hc,x⟩;have k4:=d.pa.FQ false m.fa.G _ hc x (.inl Z);replace d:=H (d.trans k4);have bo:=H hl;clear hl hc x k4;go_simp;refine f.out _ _ (⟨d.cell 0 m.fa.C Z,K0⟩) ?_;clear f J s;refine fun s=>aW ?_;have A:=cO N _ _ false _ v _ _ d.pa bo.o I.1 I.2.1 I.2.2 (by show 0<=pk.now/\pk.now<=1000000;rw[n.o];omega);rw[d.eB,show bI false=0 from Z]at A;replace A:=H A;refine aY 14 fun J f=> ?_;go_simp;refine(A.o).mono ?_;rintro e w5⟨rfl,t5,K⟩;have bv:=K.eC.1;replace d:=H (d.trans K);clear K;go_simp;refine f.out _ _ (⟨(d.cell 0 t5.fa.C Z).trans (by rw[bv];rfl),(d.cell 13 _ Z).trans (congrArg (fun z=>some (Value.int .i64 z)) ((cD _ _ _).2.2.1.trans n.o))⟩) ?_;clear f J s;refine fun s=>aW ?_;refine ay ?_ _;clear s;go_wp2_with fail
   go_roundg (gk-1)
   case measure=>omega
   case rel=>exact⟨1,_,IU,O,by rw[b5.o,b2.o];exact d.o⟩
  ·subst a4;have E:=H (show Pr.Fit (rU j 1) _ _ from(Pr.C8 P.o false));have U:=H (show Pr.Fit ((rU j 1).kp true) _ _ from Pr.C8 (Pr.C8 P.o false) true);have V:=H (show(rU j 1).Ml from d0.kp false);have n:=H (show(rU j 1).now=p.now+1 from((cD _ _ _).2.2.1).trans d1.o);have b5:=H (show rU j 2=(rU j 1).kp true from Z);generalize rU j 1=pk at d E U V n b5;have b2:=H (show pk.kp true=(pk.v6 true (pk.b.c.tick (p.now+1)).1).put true (pk.b.c.tick (p.now+1)).2 from by rw[<-n.o];rfl);have F:=E.Ei;have I:=H (eH (X:=pk.v6 true (pk.b.c.tick (p.now+1)).1) (i:=true) (l:=(pk.b.c.tick (p.now+1)).2) (by rw[<-b2.o];exact U.o) (by show pk.wire.length<=400000000;omega) (V.kl true _) O);clear F;have ac:=H (show aI (p.now+1)from by unfold aI;omega);have bk:=d.cell 6 m.fb.C Z;go_wp2_with fail;clear bk;refine az (fun W:World=>W.cell? ⟨t.B,6,none⟩=some (m.fb.C:Y)/\W.cell? ⟨t.B,13,none⟩=some ((p.now+1:Int):Y)) (⟨d.cell 6 m.fb.C Z,K0⟩) fun s=>?_;replace d:=H (d.qn (L5 _ _).drew);generalize wr.drew=w3 at d s|-;refine aA 0 1 2 3 ?_;refine aA 4 5 6 7 ?_;refine aA 8 9 10 11 ?_;refine aQ 12 ?_;refine aY 13 fun J f=> ?_;go_simp;refine(oE m.fb pk.b.c (p.now+1) _ d.pa.b E.b.c ac.o).mono ?_;rintro e w4⟨v,rfl,hl,hc,x⟩;have k4:=d.pa.FQ true m.fb.G _ hc x (.inl Z);replace d:=H (d.trans k4);have bo:=H hl;clear hl hc x k4;go_simp;refine f.out _ _ (⟨d.cell 6 m.fb.C Z,K0⟩) ?_;clear f J s;refine fun s=>aW ?_;have A:=cO N _ _ true _ v _ _ d.pa bo.o I.1 I.2.1 I.2.2 (by show 0<=pk.now/\pk.now<=1000000;rw[n.o];omega);rw[d.eB,show bI true=1 from Z]at A;replace A:=H A;refine aY 14 fun J f=> ?_;go_simp;refine(A.o).mono ?_;rintro e w5⟨rfl,t5,K⟩;have bv:=K.eC.2.1;replace d:=H (d.trans K);clear K;go_simp;refine f.out _ _ (⟨(d.cell 6 t5.fb.C Z).trans (by rw[bv];rfl),(d.cell 13 _ Z).trans (congrArg (fun z=>some (Value.int .i64 z)) ((cD _ _ _).2.2.1.trans n.o))⟩) ?_;clear f J s;refine fun s=>aW ?_;refine ay ?_ _;clear s;go_wp2_with fail
   go_roundg (gk-1)
   case measure=>omega
   case rel=>exact⟨2,_,IU,O,by rw[b5.o,b2.o];exact d.o⟩
  subst a5;go_wp2_with fail
  go_end0
  exact⟨Z,m,by rw[HR.o];exact d.o⟩
end
end Go.Proofs.YtcmncipikdpnbaaGreatDoor
