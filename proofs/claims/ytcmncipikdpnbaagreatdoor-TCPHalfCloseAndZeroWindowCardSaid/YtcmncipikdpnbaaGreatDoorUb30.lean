import Derived.Test.YtcmncipikdpnbaaGreatDoorUb26
import Derived.Test.YtcmncipikdpnbaaGreatDoorUb29
namespace Go.Proofs.YtcmncipikdpnbaaGreatDoor
section
set_option maxHeartbeats 8000000
set_option maxRecDepth 100000
open Go.RowKit Go.Shelf
def dY (now:Int)(M:List bH):List bH:=M.filter fun x=>Pr.tD now x.1
def fK (now:Int)(M:List bH):List bH:=M.filter fun x=> !Pr.tD now x.1
theorem gV {α:Type}(M:List α)(k:Nat)(h:k<M.length):M.take (k+1)=M.take k++[M[k]]:=by rw[Lv h]
theorem wQ (now:Int)(M:List bH)(k:Nat)(h:k<M.length):dY now (M.take (k+1))=if Pr.tD now M[k].1=true then dY now (M.take k)++[M[k]]else dY now (M.take k):=by
 unfold dY;rw[gV M k h,Mq];by_cases a:Pr.tD now M[k].1=true <;> simp[a]
theorem tL (now:Int)(M:List bH)(k:Nat)(h:k<M.length):fK now (M.take (k+1))=if Pr.tD now M[k].1=true then fK now (M.take k)else fK now (M.take k)++[M[k]]:=by
 unfold fK;rw[gV M k h,Mq];by_cases a:Pr.tD now M[k].1=true <;> simp[a]
def fz (l:List bH)(d:Bool):Bool:=l.any fun f=>f.1.dst==d
theorem il (l:List bH)(x:bH)(d:Bool):fz (l++[x]) d=(fz l d||x.1.dst==d):=by unfold fz;rw[List.any_append];simp
theorem kL (b:Bool):(b=false/\bI b=0)\/(b=true/\bI b=1):=by cases b <;> simp[bI]
def fL (now:Int)(a L:List bH):List bH:=L.filter fun x=>Pr.v7 now (a.map (·.1)) x.1
def gW (now:Int)(a L:List bH):List bH:=L.filter fun x=> !Pr.v7 now (a.map (·.1)) x.1
theorem tM (now:Int)(a M:List bH)(k:Nat)(h:k<M.length):fL now a (M.take (k+1))=if Pr.v7 now (a.map (·.1)) M[k].1=true then fL now a (M.take k)++[M[k]]else fL now a (M.take k):=by
 unfold fL;rw[gV M k h,Mq];by_cases b:Pr.v7 now (a.map (·.1)) M[k].1=true <;> simp[b]
theorem tN (now:Int)(a M:List bH)(k:Nat)(h:k<M.length):gW now a (M.take (k+1))=if Pr.v7 now (a.map (·.1)) M[k].1=true then gW now a (M.take k)else gW now a (M.take k)++[M[k]]:=by
 unfold gW;rw[gV M k h,Mq];by_cases b:Pr.v7 now (a.map (·.1)) M[k].1=true <;> simp[b]
theorem Bz {p:Pr}{M D0 L b:List bH}(h:M.map (·.1)=p.wire)(h1:D0=dY p.now M)(h2:L=fK p.now M)(d:b=D0++fL p.now D0 L):b.map (·.1)=p.due/\(gW p.now D0 L).map (·.1)=p.rest:=by
 have a:D0.map (·.1)=Pr.El p.now p.wire:=by rw[h1,<-h];unfold dY Pr.El;rw[NN];rfl
 have c:L.map (·.1)=Pr.Dm p.now p.wire:=by rw[h2,<-h];unfold fK Pr.Dm;rw[NN];rfl
 constructor
 ·rw[d,LN,a];unfold Pr.due fL;rw[a,<-c,NN];rfl
 unfold Pr.rest gW;rw[a,<-c,NN];rfl
theorem zB {w:World}{g k:Nat}{x:bH}(h:∀j,j<16->∀u,(dF x)[j]? =some u->w.cell? ⟨g,k*16+j,none⟩=some u):w.rangeAt g (k*16+3) (aY (x.1.s,x.2.1,x.2.2)):=fun j v a=>by
 have h1:j<13:=by have:=(ML.1 a).1;exact this
 have h2:(dF x)[3+j]? =some v:=by rw[Nat.add_comm];exact a
 rw[NW];exact h (3+j) O v h2
def Pr.Ml (p:Pr):Prop:=p.many=p.log.length
theorem Pr.Ml.put {p:Pr}(h:p.Ml)(i:Bool)(l:List Sg):(p.put i l).Ml:=by
 unfold Pr.Ml at h|-;rw[rP,(kI i l p).1,h]
theorem Pr.Ml.kd {p:Pr}(h:p.Ml)(i:Bool)(d:Sd):(p.kd i d).Ml:=by cases i <;> exact h
theorem Pr.Ml.ke {p:Pr}(h:p.Ml)(f:Fl):(p.ke f).Ml:=Pr.Ml.put (h.kd _ _) _ _
theorem Pr.Ml.fold:∀(l:List Fl) {p:Pr},p.Ml->(l.foldl Pr.ke p).Ml:=by
 intro l
 induction l with
 | nil=>exact fun h=>h
 | cons f l a=>exact fun h=>a (h.ke f)
theorem wR (a:List bH)(k:Nat)(h:k<a.length)(q:Pr):((a.take (k+1)).map (·.1)).foldl Pr.ke q=(((a.take k).map (·.1)).foldl Pr.ke q).ke a[k].1:=by
 rw[gV a k h,LN,N2];rfl
theorem uP {p:Pr}{q r:Int}(h:Pr.Fit p q r)(hm:p.Ml){f:Fl}(hf:f.s.Ok)(g:q<=400000000)(hr:r<=249400000000) :
  let d:=(p.sd f.dst).c.receive p.now f.s
  (p.ro f.dst d.1).log.length+d.2.length<=500000000000/\(p.ro f.dst d.1).wire.length+2*d.2.length<=500000000000/\(p.ro f.dst d.1).many+d.2.length<=1000000000000:=by
 intro d;have h1:=(Pr.Ce h hf).llen;have h2:(p.ke f).log.length=(p.ro f.dst d.1).log.length+d.2.length:=(kI f.dst d.2 _).1;have i:=h.E0;have a:(p.ro f.dst d.1).wire=p.wire:=by cases f.dst <;> rfl
 have b:(p.ro f.dst d.1).many=p.many:=by cases f.dst <;> rfl
 have e:(p.ro f.dst d.1).log=p.log:=by cases f.dst <;> rfl
 have j:p.many=p.log.length:=hm;rw[e]at h2|-;rw[a,b];omega
theorem uQ (a:List bH)(d:Bool):fz a d=Pr.GD (a.map (·.1)) d:=by unfold fz Pr.GD;rw[List.any_map];rfl
theorem pj (N:Nat) (t:Ft) (p:Pr) (w:World) (q r:Int) (h:tT N t p w) (U:Pr.Fit p q r) (hq:q<=100000000) (hr:r<=249000000000) (hm:p.many=p.log.length) :
  Calls Tryz.prog 33 #[t.B] w (lA N t w p.deliver):=by
 have d1:=H h;have HK:=H U;have HM:=H hm;have dl:=H U.due;have bc:=U.now;have dn:=U.E0;obtain⟨ak,al⟩:=bc;obtain⟨M,hM,c9⟩:=h.wire;have d2:=H hM;have dp:=H c9;have ds:M.length=p.wire.length:=by rw[<-hM,LI]
 have dv:(M.length:Int)<=100000000:=O
 clear ds dn;obtain⟨a,f7,hv⟩:=c9.val';have HV:=H hv;have i2:=h.big;have i3:=h.lt;obtain⟨R,hR⟩:∃R,R=p.deliver:=⟨_,Z⟩;rw[<-hR];have HR:=H hR;clear hR hM c9 hv U hm h
 go_enter Tryz.func33,Tryz.ntmps33
 have f8:w.cell? ⟨t.B,12,none⟩=some (.slice a M.length f7):=by have:=d1.cell 12 t.vW Z;rwa [HV.o]at this
 go_wp2_with fail;obtain⟨mb,A⟩:∃mb,mb=w.heap.size:=⟨_,Z⟩;have d3:=H (show Dl N t w t p [] [] (.slice none 0 0) (.slice none 0 0) mb false false (w.alloc (.cells #[false,false] 111))from by subst A;exact Dl.start d1.o);rw[<-A];clear A f8
 go_loopg [2,3,5] M.length (fun g v2 v3 iv wr=>∃(k:Nat),iv=((k:Int):Y)/\g+k=M.length/\Dl N t w t p (dY p.now (M.take k)) (fK p.now (M.take k)) v2 v3 mb (fz (dY p.now (M.take k)) false) (fz (dY p.now (M.take k)) true) wr/\bM wr N t.vW M)
 case atStart=>exact⟨0,Z,O,d3.o,dp.below ((L3 _ w).alloc (L4 _) _)⟩
 case round =>
  obtain⟨k,rfl,ca,c3,how⟩:=hrel;have i:=H c3;have S:=H how;clear c3 how d3;obtain⟨a2,e2,h6⟩:=i.d.val';obtain⟨a3,e3,h7⟩:=i.l.val';subst h6 h7;have f8:wr.cell? ⟨t.B,12,none⟩=some (.slice a M.length f7):=by have:=i.st.cell 12 t.vW Z;rwa [HV.o]at this
  by_cases U:k<M.length
  ·have d4:(k:Int)<(M.length:Int):=by omega
   have b3:=H (wQ p.now M k U);have b4:=H (tL p.now M k U);obtain⟨g,cg,b6,g5,T⟩:=S.at U;obtain⟨rfl,rfl⟩:a=some ⟨g,0,none⟩/\f7=cg:=by have h1:=HV.o;rw[b6]at h1;cases h1;exact⟨Z,Z⟩
   have E:=H (S.2 M[k] (LP U));obtain⟨x,hx⟩:∃x,x=M[k]:=⟨_,Z⟩;rw[<-hx]at T E b3 b4;clear hx b6;have b7:=H (mv T);clear T
   go_wp2_with (refine wpList_load_mid Z 55 _ Z g (k*16) Z (dF x) _ b7.o Tryz.underlying55 Z dG ?_;(try dsimp only[dF,aY]))
   have bd:(dY p.now (M.take k)).length<=100000000:=L8 (M5 _ _) IS;have cb:(fK p.now (M.take k)).length<=100000000:=L8 (M5 _ _) IS;have d5:=H (fun J (e:_=some J)=>Np (i.l.lt J e).2);clear b7;change Code.wp _ _ _ _ (wr.alloc (.cells (dF x).toArray 55));have av:=(L3 wr.heap.size wr).alloc (L4 _) (.cells (dF x).toArray 55);have m:=H (aP.new wr x);have eL:=H (fun J (e:t.vW.ownBlock=some J)=>Np (S.lt J e).2);have bx:=H (fun J (e:_=some J)=>Np (i.d.lt J e).2);replace i:=H (i.oz av);replace S:=H (S.below av);replace E:=H (E.keep av.size (aG.below av));clear av;generalize hF:wr.heap.size=F at m bx d5 eL|-;generalize wr.alloc (.cells (dF x).toArray 55)=w1 at *;clear hF
   go_upto_region 7 with fail
   go_cut [39]from 28 to 38 (fun h8 wx=>h8=(Pr.tD p.now x.1:Y)/\Dl N t w t p (dY p.now (M.take k)) (fK p.now (M.take k)) (.slice a2 (dY p.now (M.take k)).length e2) (.slice a3 (fK p.now (M.take k)).length e3) mb (fz (dY p.now (M.take k)) false) (fz (dY p.now (M.take k)) true) wx/\bM wx N t.vW M/\aP F x wx/\bF wx x.2.1 x.1.s.bl)
   case first =>
    by_cases K:x.1.held=true
    ·have V:Pr.tD p.now x.1=false:=by unfold Pr.tD;rw[K];rfl
     refine az (fun W:World=>W.cell? ⟨F,2,none⟩=some (true:Y)) (m.cell 2 _ J5) fun G=>?_;replace i:=H (i.oz (L3 _ _).drew);replace m:=H (show aP F x w1.drew from m.o);replace S:=H (show bM w1.drew N t.vW M from S.below (L3 _ _).drew);replace E:=H (E.keep (L3 w1.heap.size w1).drew.size (aG.below (L3 w1.heap.size w1).drew));generalize w1.drew=w2 at *;refine aA 0 1 2 3 ?_;refine aU 4 ?_;refine aU 5 ?_;refine aU 6 ?_;refine aU 7 ?_;refine aU 8 ?_;refine aU 9 ?_;refine aU 10 ?_;refine aQ 11 ?_;refine ay ?_ _;clear G;clear K;go_wp2_with fail
     go_meet
     case rel=>exact⟨J9,i.o,S.o,m.o,E.o⟩
    replace K:x.1.held=false:=by simpa using K
    by_cases c1:x.1.due<=p.now
    ·have V:Pr.tD p.now x.1=true:=by unfold Pr.tD;rw[K];show decide (x.1.due<=p.now)=true;simp[c1]
     refine az (fun W:World=>W.cell? ⟨F,2,none⟩=some (false:Y)/\W.cell? ⟨F,1,none⟩=some (.int .i64 x.1.due)/\W.cell? ⟨t.B,13,none⟩=some (p.now:Y)) (⟨m.cell 2 _ J5,m.cell 1 _ Z,i.st.cell 13 p.now Z⟩) fun G=>?_;replace i:=H (i.oz (L3 _ _).drew);replace m:=H (show aP F x w1.drew from m.o);replace S:=H (show bM w1.drew N t.vW M from S.below (L3 _ _).drew);replace E:=H (E.keep (L3 w1.heap.size w1).drew.size (aG.below (L3 w1.heap.size w1).drew));generalize w1.drew=w2 at *;refine aA 0 1 2 3 ?_;refine aA 4 5 6 7 ?_;refine aM 8 9 ?_;refine aQ 10 (v:=.bool true) ?_ (hy:=by intro w P;(obtain⟨z0,z1,z2⟩:=P);go_simp;(try first | omega | (rw[Lh];omega)));refine aQ 11 ?_;refine ay ?_ _;clear G;clear K;go_wp2_with fail
     go_meet
     case rel=>exact⟨J9,i.o,S.o,m.o,E.o⟩
    have V:Pr.tD p.now x.1=false:=by unfold Pr.tD;rw[K];show decide (x.1.due<=p.now)=false;simp[c1]
    refine az (fun W:World=>W.cell? ⟨F,2,none⟩=some (false:Y)/\W.cell? ⟨F,1,none⟩=some (.int .i64 x.1.due)/\W.cell? ⟨t.B,13,none⟩=some (p.now:Y)) (⟨m.cell 2 _ J5,m.cell 1 _ Z,i.st.cell 13 p.now Z⟩) fun G=>?_;replace i:=H (i.oz (L3 _ _).drew);replace m:=H (show aP F x w1.drew from m.o);replace S:=H (show bM w1.drew N t.vW M from S.below (L3 _ _).drew);replace E:=H (E.keep (L3 w1.heap.size w1).drew.size (aG.below (L3 w1.heap.size w1).drew));generalize w1.drew=w2 at *;refine aA 0 1 2 3 ?_;refine aA 4 5 6 7 ?_;refine aM 8 9 ?_;refine aQ 10 (v:=.bool false) ?_ (hy:=by intro w P;(obtain⟨z0,z1,z2⟩:=P);go_simp;(try first | omega | (rw[Lr];omega)));refine aQ 11 ?_;refine ay ?_ _;clear G;clear K;go_wp2_with fail
    go_meet
    case rel=>exact⟨J9,i.o,S.o,m.o,E.o⟩
   case rest =>
    obtain⟨rfl,h1,h2,h3,h4⟩:=hcut;clear i S m E;have i:=H h1;have S:=H h2;have m:=H h3;have E:=H h4;clear h1 h2 h3 h4;obtain⟨b,V⟩:∃b,Pr.tD p.now x.1=b:=⟨_,Z⟩;rw[V]at b3 b4|-;clear V
    cases b
    ·have ax:=b3.o;have b0:=b4.o;rw[L5 MX]at ax b0;have b8:=H (aP.range m.o);have a9:=(L3 wc.heap.size wc).alloc (L4 _) (.cells (dF x).toArray 55);have a5:=H (tG (Lp wc (.cells (dF x).toArray 55)));replace i:=H (i.oz a9);have am:=H (show ∀u∈([x]:List bH),bF (wc.alloc (.cells (dF x).toArray 55)) u.2.1 u.1.s.bl from fun u hu=>by rw[Lu.1 hu];exact E.keep a9.size (aG.below a9));have an:=H (m.below a9);have be:=H (S.below a9);have c5:(fK p.now (M.take k)).length+([x]:List bH).length<=1000000000000:=by have:=cb;show _+1<=_;omega
     go_wp2_with (first | (at_builtin;refine cd _ Z _ _ Z N _ (fK p.now (M.take k)) Z i.l wc.heap.size 0 1 [x] Z a5.o am.o c5 i.st.pa.big ?_) | (refine wpList_load_mid Z 55 _ Z F 0 Z (dF x) _ b8.o Tryz.underlying55 Z dG ?_;(try dsimp only[dF,aY])))
     intro v4 w4 ho hg hb;clear c5 a5 am a9 b8;replace m:=H (show aP F x w4 from(hg.block F an.lt (fun e=>d5.o F e.symm Z)).trans an.o);replace S:=H (be.keep hg.size (i.l.t8 hg) (fun J e=>hg.block J (be.lt J e).2 (fun e2=>(i.nl J e2.symm).1 (.inr (.inr (.inr (.inl e)))))));clear be;have b9:=H (i.Hy (x:=x) Kh hg (hb.imp id fun⟨J,h1,h2⟩=>⟨J,h1,Kk⟩));clear an ho hg hb i;have i:=b9;clear b9;go_wp2_with fail
     go_roundg (gk-1)
     case measure=>omega
     case rel=>exact⟨k+1,IY,O,by rw[ax,b0];exact i.o,S.o⟩
    have ax:=b3.o;have b0:=b4.o;rw[L7 Z]at ax b0;have b8:=H (aP.range m.o);have a9:=(L3 wc.heap.size wc).alloc (L4 _) (.cells (dF x).toArray 55);have a5:=H (tG (Lp wc (.cells (dF x).toArray 55)));replace i:=H (i.oz a9);have am:=H (show ∀u∈([x]:List bH),bF (wc.alloc (.cells (dF x).toArray 55)) u.2.1 u.1.s.bl from fun u hu=>by rw[Lu.1 hu];exact E.keep a9.size (aG.below a9));have an:=H (m.below a9);have be:=H (S.below a9);have c5:(dY p.now (M.take k)).length+([x]:List bH).length<=1000000000000:=by have:=bd;show _+1<=_;omega
    go_wp2_with (first | (at_builtin;refine cd _ Z _ _ Z N _ (dY p.now (M.take k)) Z i.d wc.heap.size 0 1 [x] Z a5.o am.o c5 i.st.pa.big ?_) | (refine wpList_load_mid Z 55 _ Z F 0 Z (dF x) _ b8.o Tryz.underlying55 Z dG ?_;(try dsimp only[dF,aY])))
    intro v4 w4 ho hg hb;clear c5 a5 am a9 b8;replace m:=H (show aP F x w4 from(hg.block F an.lt (fun e=>bx.o F e.symm Z)).trans an.o);replace S:=H (be.keep hg.size (i.d.t8 hg) (fun J e=>hg.block J (be.lt J e).2 (fun e2=>(i.nd J e2.symm).1 (.inr (.inr (.inr (.inl e)))))));clear be;have b9:=H (i.He (x:=x) Kh hg (hb.imp id fun⟨J,h1,h2⟩=>⟨J,h1,Kk⟩));clear an ho hg hb i;have i:=b9;clear b9;obtain⟨X,a6⟩ | ⟨X,a6⟩:=kL x.1.dst
    focus
     have k0:w4.cell? F=some ((0:Int):Y):=m.cell 0 _ Jf;have m0:=i.DV 0 _ Z;have f0:=i.GA 0;have ea:fz (dY p.now (M.take k)++[x]) false=true:=by rw[il,X];simp
     have eb:fz (dY p.now (M.take k)++[x]) true=fz (dY p.now (M.take k)) true:=by rw[il,X];simp
     have d6:=H (i.flag 0 true (fz (dY p.now (M.take k)++[x]) false) (fz (dY p.now (M.take k)++[x]) true) (by rw[ea,eb];rfl));have bz:lh mb w4 (w4.setCell mb true):=(lh.refl _ _).setCell 0 true
    rotate_left 1
    focus
     have k0:w4.cell? F=some ((1:Int):Y):=m.cell 0 _ Jf;have m0:=i.DV 1 _ Z;have f0:=i.GA 1;have ea:fz (dY p.now (M.take k)++[x]) true=true:=by rw[il,X];simp
     have eb:fz (dY p.now (M.take k)++[x]) false=fz (dY p.now (M.take k)) false:=by rw[il,X];simp
     have d6:=H (i.flag 1 true (fz (dY p.now (M.take k)++[x]) false) (fz (dY p.now (M.take k)++[x]) true) (by rw[ea,eb];rfl));have bz:lh mb w4 (w4.setCell ⟨mb,1,none⟩ true):=(lh.refl _ _).setCell 1 true
    all_goals
     have eS:=H (S.keep bz.size (.BS bz i.mty D) (fun J e=>bz.block J (S.lt J e).2 ((S.ty J e).ne i.mty D)));clear bz ea eb;go_wp2_with fail
     go_roundg (gk-1)
     case measure=>omega
     case rel=>exact⟨k+1,IY,O,by rw[ax,b0];exact d6.o,eS.o⟩
  have d0:k=M.length:=O
  subst d0;rw[LS]at i|-;have e0:=i.st.free 12;have b1:=i.pair (i.st.pa.setW (.slice none 0 0) [] (World.grownBy.refl _ _) (bM.nil _ _) (fun _ h=>nomatch h));rw[i.st.eB]at b1;replace b1:=H b1;have cC:(fK p.now M).length<=100000000:=L8 (M5 _ _) O;have e5:(dY p.now M).length<=100000000:=L8 (M5 _ _) O;have cF:=H (uQ (dY p.now M) false);have cL:=H (uQ (dY p.now M) true);go_wp2_with fail;clear e0 i S f8;generalize wr.setCell ⟨t.B,12,none⟩ (.slice none 0 0)=w0 at b1|-;obtain⟨L,hL⟩:∃L,L=fK p.now M:=⟨_,Z⟩;have HL:=H hL;rw[<-hL]at b1 cC|-;clear hL;obtain⟨I,f9⟩:∃I,I=dY p.now M:=⟨_,Z⟩;have cf:=H f9;rw[<-f9]at b1 cF cL e5|-;clear f9;obtain⟨ba,g6⟩:∃b,b=fz I false:=⟨_,Z⟩;obtain⟨bb,g7⟩:∃b,b=fz I true:=⟨_,Z⟩;rw[<-g6]at b1 cF;rw[<-g7]at b1 cL;clear g6 g7
  go_loopg [2,7] L.length (fun g v2 iv wr=>∃(k:Nat) (t1:Ft),iv=((k:Int):Y)/\g+k=L.length/\Dl N t w t1 { p with wire:=(gW p.now I (L.take k)).map (·.1) } (I++fL p.now I (L.take k)) L v2 (.slice a3 L.length e3) mb ba bb wr)
  case atStart=>exact⟨0,_,Z,O,by show Dl _ _ _ _ _ (I++[]) _ _ _ _ _ _ _;rw[LM];exact b1.o⟩
  case round =>
   obtain⟨k,t1,rfl,ca,c3⟩:=hrel;have i:=H c3;clear c3 b1;obtain⟨a4,e4,e1⟩:=i.d.val';obtain⟨n2,g8⟩:∃n2,n2=(I++fL p.now I (L.take k)).length:=⟨_,Z⟩;rw[<-g8]at e1;subst e1;clear g8;by_cases U:k<L.length
   ·have d4:(k:Int)<(L.length:Int):=by omega
    have b3:=H (tM p.now I L k U);have b4:=H (tN p.now I L k U);obtain⟨g,cg,b6,g5,T⟩:=i.l.at U;obtain⟨rfl,rfl⟩:a3=some ⟨g,0,none⟩/\e3=cg:=by cases b6;exact⟨Z,Z⟩
    have E:=H (i.l.2 L[k] (LP U));have d7:0<=L[k].1.due/\L[k].1.due<=1000100:=dl.o L[k].1 (by rw[<-d2.o];exact Nn (LZ.1 (show L[k]∈fK p.now M from by rw[<-HL.o];exact LP U)).1);obtain⟨x,hx⟩:∃x,x=L[k]:=⟨_,Z⟩;rw[<-hx]at T E b3 b4 d7;obtain⟨e6,e7⟩:=d7;clear hx b6;have b7:=H (mv T);clear T
    go_wp2_with (refine wpList_load_mid Z 55 _ Z g (k*16) Z (dF x) _ b7.o Tryz.underlying55 Z dG ?_;(try dsimp only[dF,aY]))
    have bd:(I++fL p.now I (L.take k)).length<=200000000:=by rw[La];have:(fL p.now I (L.take k)).length<=(L.take k).length:=M5 _ _;rw[Le]at this;omega
    have e8:=H (show((gW p.now I (L.take k)).map (·.1)).length<=100000000 from by rw[LI];exact L8 (M5 _ _) IS);have ch:=H (fun(e:t1.D wr.heap.size)=>MD _ (i.st.pa.Gz _ e).1);have cM:=i.st.size;clear b7;change Code.wp _ _ _ _ (wr.alloc (.cells (dF x).toArray 55));have av:=(L3 wr.heap.size wr).alloc (L4 _) (.cells (dF x).toArray 55);have m:=H (aP.new wr x);have bx:=H (fun J (e:_=some J)=>Np (i.d.lt J e).2);replace i:=H (i.oz av);replace E:=H (E.keep av.size (aG.below av));clear av;generalize hF:wr.heap.size=F at m bx ch cM|-;generalize wr.alloc (.cells (dF x).toArray 55)=w1 at *;clear hF
    go_upto_region 16 with fail
    go_cut [81]from 64 to 80 (fun h9 wx=>h9=(Pr.v7 p.now (I.map (·.1)) x.1:Y)/\Dl N t w t1 { p with wire:=(gW p.now I (L.take k)).map (·.1) } (I++fL p.now I (L.take k)) L (.slice a4 n2 e4) (.slice (some ⟨g,0,none⟩) L.length e3) mb ba bb wx/\aP F x wx/\bF wx x.2.1 x.1.s.bl)
    case first =>
     by_cases K:x.1.held=true
     ·obtain⟨X,a6⟩ | ⟨X,a6⟩:=kL x.1.dst
      focus
       by_cases A:ba=true
       ·have V:Pr.v7 p.now (I.map (·.1)) x.1=true:=by unfold Pr.v7;rw[K,X,<-cF.o,A];rfl
        refine az (fun W:World=>W.cell? ⟨F,2,none⟩=some (true:Y)/\W.cell? F=some ((0:Int):Y)/\W.cell? mb=some (true:Y)) (⟨m.cell 2 _ J5,m.cell 0 _ Jf,Ki⟩) fun G=>?_;replace i:=H (i.oz (L3 _ _).drew);replace m:=H (show aP F x w1.drew from m.o);replace E:=H (E.keep (L3 w1.heap.size w1).drew.size (aG.below (L3 w1.heap.size w1).drew));generalize w1.drew=w2 at *;refine aA 0 1 2 3 ?_;refine aA 4 5 6 7 ?_;refine aU 8 ?_;refine aU 9 ?_;refine aU 10 ?_;refine aU 11 ?_;refine aU 12 ?_;refine aU 13 ?_;refine aU 14 ?_;refine aU 15 ?_;refine aM 16 17 ?_;refine ay ?_ _;clear G;clear K a6 X A;go_wp2_with fail
        go_meet
        case rel=>exact⟨J9,i.o,m.o,E.o⟩
       replace A:ba=false:=by simpa using A
       by_cases c1:x.1.due+30<=p.now
       ·have V:Pr.v7 p.now (I.map (·.1)) x.1=true:=by unfold Pr.v7;rw[K,X,<-cF.o,A];show decide (x.1.due+30<=p.now)=true;simp[c1]
        refine az (fun W:World=>W.cell? ⟨F,2,none⟩=some (true:Y)/\W.cell? F=some ((0:Int):Y)/\W.cell? mb=some (false:Y)/\W.cell? ⟨F,1,none⟩=some (.int .i64 x.1.due)/\W.cell? ⟨t.B,13,none⟩=some (p.now:Y)) (⟨m.cell 2 _ J5,m.cell 0 _ Jf,Ki,m.cell 1 _ Z,i.st.cell 13 p.now Z⟩) fun G=>?_;replace i:=H (i.oz (L3 _ _).drew);replace m:=H (show aP F x w1.drew from m.o);replace E:=H (E.keep (L3 w1.heap.size w1).drew.size (aG.below (L3 w1.heap.size w1).drew));generalize w1.drew=w2 at *;refine aA 0 1 2 3 ?_;refine aA 4 5 6 7 ?_;refine aM 8 9 ?_;refine aQ 10 (v:=.int .i64 (x.1.due+30)) ?_ (hy:=Kl);refine aA 11 12 13 14 ?_;refine aQ 15 (v:=.bool true) ?_ (hy:=KP);refine aM 16 17 ?_;refine ay ?_ _;clear G;clear K a6 X A c1;go_wp2_with fail
        go_meet
        case rel=>exact⟨J9,i.o,m.o,E.o⟩
       have V:Pr.v7 p.now (I.map (·.1)) x.1=false:=by unfold Pr.v7;rw[K,X,<-cF.o,A];show decide (x.1.due+30<=p.now)=false;simp[c1]
       refine az (fun W:World=>W.cell? ⟨F,2,none⟩=some (true:Y)/\W.cell? F=some ((0:Int):Y)/\W.cell? mb=some (false:Y)/\W.cell? ⟨F,1,none⟩=some (.int .i64 x.1.due)/\W.cell? ⟨t.B,13,none⟩=some (p.now:Y)) (⟨m.cell 2 _ J5,m.cell 0 _ Jf,Ki,m.cell 1 _ Z,i.st.cell 13 p.now Z⟩) fun G=>?_
      rotate_left 1
      focus
       by_cases A:bb=true
       ·have V:Pr.v7 p.now (I.map (·.1)) x.1=true:=by unfold Pr.v7;rw[K,X,<-cL.o,A];rfl
        refine az (fun W:World=>W.cell? ⟨F,2,none⟩=some (true:Y)/\W.cell? F=some ((1:Int):Y)/\W.cell? ⟨mb,1,none⟩=some (true:Y)) (⟨m.cell 2 _ J5,m.cell 0 _ Jf,Kj⟩) fun G=>?_;replace i:=H (i.oz (L3 _ _).drew);replace m:=H (show aP F x w1.drew from m.o);replace E:=H (E.keep (L3 w1.heap.size w1).drew.size (aG.below (L3 w1.heap.size w1).drew));generalize w1.drew=w2 at *;refine aA 0 1 2 3 ?_;refine aA 4 5 6 7 ?_;refine aU 8 ?_;refine aU 9 ?_;refine aU 10 ?_;refine aU 11 ?_;refine aU 12 ?_;refine aU 13 ?_;refine aU 14 ?_;refine aU 15 ?_;refine aM 16 17 ?_;refine ay ?_ _;clear G;clear K a6 X A;go_wp2_with fail
        go_meet
        case rel=>exact⟨J9,i.o,m.o,E.o⟩
       replace A:bb=false:=by simpa using A
       by_cases c1:x.1.due+30<=p.now
       ·have V:Pr.v7 p.now (I.map (·.1)) x.1=true:=by unfold Pr.v7;rw[K,X,<-cL.o,A];show decide (x.1.due+30<=p.now)=true;simp[c1]
        refine az (fun W:World=>W.cell? ⟨F,2,none⟩=some (true:Y)/\W.cell? F=some ((1:Int):Y)/\W.cell? ⟨mb,1,none⟩=some (false:Y)/\W.cell? ⟨F,1,none⟩=some (.int .i64 x.1.due)/\W.cell? ⟨t.B,13,none⟩=some (p.now:Y)) (⟨m.cell 2 _ J5,m.cell 0 _ Jf,Kj,m.cell 1 _ Z,i.st.cell 13 p.now Z⟩) fun G=>?_;replace i:=H (i.oz (L3 _ _).drew);replace m:=H (show aP F x w1.drew from m.o);replace E:=H (E.keep (L3 w1.heap.size w1).drew.size (aG.below (L3 w1.heap.size w1).drew));generalize w1.drew=w2 at *;refine aA 0 1 2 3 ?_;refine aA 4 5 6 7 ?_;refine aM 8 9 ?_;refine aQ 10 (v:=.int .i64 (x.1.due+30)) ?_ (hy:=Kl);refine aA 11 12 13 14 ?_;refine aQ 15 (v:=.bool true) ?_ (hy:=KP);refine aM 16 17 ?_;refine ay ?_ _;clear G;clear K a6 X A c1;go_wp2_with fail
        go_meet
        case rel=>exact⟨J9,i.o,m.o,E.o⟩
       have V:Pr.v7 p.now (I.map (·.1)) x.1=false:=by unfold Pr.v7;rw[K,X,<-cL.o,A];show decide (x.1.due+30<=p.now)=false;simp[c1]
       refine az (fun W:World=>W.cell? ⟨F,2,none⟩=some (true:Y)/\W.cell? F=some ((1:Int):Y)/\W.cell? ⟨mb,1,none⟩=some (false:Y)/\W.cell? ⟨F,1,none⟩=some (.int .i64 x.1.due)/\W.cell? ⟨t.B,13,none⟩=some (p.now:Y)) (⟨m.cell 2 _ J5,m.cell 0 _ Jf,Kj,m.cell 1 _ Z,i.st.cell 13 p.now Z⟩) fun G=>?_
      all_goals
       replace i:=H (i.oz (L3 _ _).drew);replace m:=H (show aP F x w1.drew from m.o);replace E:=H (E.keep (L3 w1.heap.size w1).drew.size (aG.below (L3 w1.heap.size w1).drew));generalize w1.drew=w2 at *;refine aA 0 1 2 3 ?_;refine aA 4 5 6 7 ?_;refine aM 8 9 ?_;refine aQ 10 (v:=.int .i64 (x.1.due+30)) ?_ (hy:=Kl);refine aA 11 12 13 14 ?_;refine aQ 15 (v:=.bool false) ?_ (hy:=by intro w P;(obtain⟨z0,z1,z2,z3,z4⟩:=P);go_simp;(try first | omega | (rw[Lr];omega)));refine aM 16 17 ?_;refine ay ?_ _;clear G;clear K a6 X A c1;go_wp2_with fail
       go_meet
       case rel=>exact⟨J9,i.o,m.o,E.o⟩
     replace K:x.1.held=false:=by simpa using K
     have V:Pr.v7 p.now (I.map (·.1)) x.1=false:=by unfold Pr.v7;rw[K];rfl
     refine az (fun W:World=>W.cell? ⟨F,2,none⟩=some (false:Y)) (m.cell 2 _ J5) fun G=>?_;replace i:=H (i.oz (L3 _ _).drew);replace m:=H (show aP F x w1.drew from m.o);replace E:=H (E.keep (L3 w1.heap.size w1).drew.size (aG.below (L3 w1.heap.size w1).drew));generalize w1.drew=w2 at *;refine aM 0 1 ?_;refine aQ 2 ?_;refine aU 3 ?_;refine aU 4 ?_;refine aU 5 ?_;refine aU 6 ?_;refine aU 7 ?_;refine aU 8 ?_;refine aU 9 ?_;refine aU 10 ?_;refine aU 11 ?_;refine aU 12 ?_;refine aU 13 ?_;refine aU 14 ?_;refine aU 15 ?_;refine aU 16 ?_;refine aQ 17 ?_;refine ay ?_ _;clear G;clear K;go_wp2_with fail
     go_meet
     case rel=>exact⟨J9,i.o,m.o,E.o⟩
    case rest =>
     obtain⟨rfl,h1,h3,h4⟩:=hcut;clear i m E;have i:=H h1;have m:=H h3;have E:=H h4;clear h1 h3 h4;obtain⟨b,V⟩:∃b,Pr.v7 p.now (I.map (·.1)) x.1=b:=⟨_,Z⟩;rw[V]at b3 b4|-;clear V
     cases b
     ·have ax:=H b3.o;have b0:=H b4.o;have HP:=H (i.Iy m.o E.o cM ch.o);have HD:=H i.o;clear i m E ch;obtain⟨tc,g9⟩:∃tc,tc=t1:=⟨_,Z⟩;rw[<-g9]at HP HD;clear g9
      go_upto_region 18 with fail
      refine az (aP F x) (HP.row) fun G=>?_;replace HP:=H (HP.oz (L3 _ _).drew);replace HD:=H (HD.oz (L3 _ _).drew);generalize i0:World.drew _=w9 at HP HD G|-;clear i0;have cS:w9.cell? ⟨t.B,12,none⟩=some tc.vW:=HP.st.cell 12 _ Z;have hb:=(L3 w9.heap.size w9).alloc (L4 _) (.cells (bL ([x]:List bH)).toArray 55);have cV:t.B<w9.heap.size:=by rw[<-HP.st.eB];exact HP.st.pa.lt
      have e9:=(Lg (a:=⟨t.B,12,none⟩) (hb.block t.B cV)).trans cS;refine aA 0 1 2 3 ?_;refine sA 5 (dF x) (fun _ h=>aP.range h) Tryz.underlying55 dG ?_ (ha:=by((try simp only[Act.put,Ld,Li,Lk,dF,aY]);(try rfl)));refine wpAnyH_ready (rs:=[4,6]) IG FE ?_;refine AllReadyH.cons (by simp only[Lt,Ls,Lo];rfl) (fun Kq n=> ?_) (AllReadyH.cons (by simp only[Lt,Ls,Lo];rfl) (fun Kq n=> ?_) AllReadyH.nil)
      focus
       go_simp;refine n.out _ _ (G) ?_;clear n Kq G;refine fun G=>aW ?_;refine aZ 6 fun Kq n=> ?_;go_simp;refine n.out _ _ ((aP.below HP.row hb)) ?_;clear n Kq G;refine fun G=>aW ?_
      rotate_left 1
      focus
       go_simp;refine n.out _ _ ((aP.below HP.row hb)) ?_;clear n Kq G;refine fun G=>aW ?_;refine aZ 4 fun Kq n=> ?_;go_simp;refine n.out _ _ (G) ?_;clear n Kq G;refine fun G=>aW ?_
      all_goals
       as_aux_lemma =>
        have ag:=H (HP.oz hb);have a5:=H (gU (M:=[x]) (Lp w9 (.cells (bL ([x]:List bH)).toArray 55)));obtain⟨LL,cC,h0⟩:=ag.st.pa.wire;have ci:=H cC;have d8:=H h0;have hlen:LL.length=((gW p.now I (L.take k)).map (·.1)).length:=by rw[<-LI (f:=(·.1)),cC]
        clear cC h0;have d9:=H (show LL.length+1<=1000000000000 by rw[hlen];have:=e8.o;omega);clear hlen;have am:=H (show ∀u∈([x]:List bH),bF (w9.alloc (.cells (bL ([x]:List bH)).toArray 55)) u.2.1 u.1.s.bl from fun u hu=>by rw[show u=x by simpa using hu];exact ag.bl);refine aZ 7 fun Kq n=> ?_;refine cA Z _ _ Z N _ LL IJ d8.o w9.heap.size 0 1 [x] IJ a5.o am.o d9.o ag.st.pa.big ?_;intro v4 g0 f4 f5 c2;obtain⟨a4,c4,e1,-,-⟩:=f4.val;obtain⟨n4,h5⟩:∃n4,n4=(LL++[x]).length:=⟨_,Z⟩;rw[<-h5]at e1;subst e1;clear h5;have HK:=H (ag.Eg f5);have cl:=H (ag.wire _ (LL++[x]) f5 f4 (fun J c8=>by rcases c2 with c2 | ⟨k2,c2,g2⟩;exact .inl (by rw[<-c2];exact c8);exact .inr (by rw[c2]at c8;cases c8;exact g2)));have cX:=(HD.oz hb).pair (ag.st.pa.setW _ (LL++[x]) f5 f4 (fun J c8=>by rcases c2 with c2 | ⟨k2,c2,g2⟩;exact .inl (by rw[<-c2];exact c8);exact .inr (by rw[c2]at c8;cases c8;exact g2)));rw[ag.st.eB]at cX;replace cX:=H cX;have cT:g0.cell? ⟨t.B,12,none⟩=some tc.vW:=(Lg (a:=⟨t.B,12,none⟩) HK.1).trans (ag.st.cell 12 _ Z);have gT:g0.frozen? ⟨t.B,12,none⟩=false:=by have U:=HK.1;rw[<-ag.st.eB]at U|-;exact LT _ _ _ _ _ (U.trans ag.st.pa.blk)
        have cY:aP F x g0:=HK.2.trans ag.row;clear f4 f5 c2;refine n.out _ _ (cY) ?_;clear n Kq G;refine fun G=>aW ?_;refine aM 8 9 ?_;refine aZ 10 fun Kq n=> ?_;go_simp;refine n.out _ _ (cl.row) ?_;clear n Kq G;refine fun G=>aW ?_;refine ay ?_ _;clear G cT gT cY cS e9 hb cV;replace HP:=H (cl.Gj (q':=({ p with wire:=(gW p.now I (L.take k)++[x]).map (·.1) }:Pr)) (by rw[LN,LN,ci.o]));replace HD:=H (cX.Gj (q':=({ p with wire:=(gW p.now I (L.take k)++[x]).map (·.1) }:Pr)) (by rw[LN,LN,ci.o]));clear cX;clear cl HK ag a5 d8 d9 am ci;go_wp2_with fail
        go_roundg (gk-1)
        case measure=>omega
        case rel=>exact⟨k+1,_,IY,O,by rw[ax.o,b0.o,L5 MX,L5 MX];exact HD.o⟩
     have ax:=b3.o;have b0:=b4.o;rw[L7 Z]at ax b0;have b8:=H (aP.range m.o);have a9:=(L3 wc.heap.size wc).alloc (L4 _) (.cells (dF x).toArray 55);have a5:=H (tG (Lp wc (.cells (dF x).toArray 55)));replace i:=H (i.oz a9);have am:=H (show ∀u∈([x]:List bH),bF (wc.alloc (.cells (dF x).toArray 55)) u.2.1 u.1.s.bl from fun u hu=>by rw[Lu.1 hu];exact E.keep a9.size (aG.below a9));have an:=H (m.below a9);have c5:(I++fL p.now I (L.take k)).length+([x]:List bH).length<=1000000000000:=by have:=bd;show _+1<=_;omega
     go_wp2_with (first | (at_builtin;refine cd _ Z _ _ Z N _ (I++fL p.now I (L.take k)) Z i.d wc.heap.size 0 1 [x] Z a5.o am.o c5 i.st.pa.big ?_) | (refine wpList_load_mid Z 55 _ Z F 0 Z (dF x) _ b8.o Tryz.underlying55 Z dG ?_;(try dsimp only[dF,aY])))
     intro v4 w4 ho hg hb;clear c5 a5 am a9 b8;replace m:=H (show aP F x w4 from(hg.block F an.lt (fun e=>bx.o F e.symm Z)).trans an.o);have b9:=H (i.He (x:=x) Kh hg (hb.imp id fun⟨J,h1,h2⟩=>⟨J,h1,Kk⟩));clear an ho hg hb i;have i:=b9;clear b9;go_wp2_with fail
     go_roundg (gk-1)
     case measure=>omega
     case rel=>exact⟨k+1,t1,IY,O,by rw[ax,b0,<-LK];exact i.o⟩
   have d0:k=L.length:=O
   subst d0;rw[LS]at i;obtain⟨DD,g3⟩:∃DD,DD=I++fL p.now I L:=⟨_,Z⟩;rw[<-g3]at i;have da:=H g3;clear g3;obtain⟨_,_,i1⟩:=i.d.val'
   cases i1
   have ec:DD.length<=200000000:=by rw[da.o,La];have:(fL p.now I L).length<=L.length:=M5 _ _;omega
   have c6:=H (Bz d2.o cf.out HL.o da.o);obtain⟨q1,g4⟩:∃q1:Pr,q1={ p with wire:=(gW p.now I L).map (·.1) }:=⟨_,Z⟩;rw[<-g4]at i;have cn:=H g4;clear g4;have ed:=H (Pr.Ed HK.o);have ei:=HK.E0;have c7:=H (show q1={ p with wire:=p.rest }from by rw[cn.out,c6.2]);go_wp2_with fail
   go_loopg [9] DD.length (fun g iv wr=>∃(k:Nat) (t2:Ft),iv=((k:Int):Y)/\g+k=DD.length/\Dl N t w t2 (((DD.take k).map (·.1)).foldl Pr.ke q1) DD L (.slice a4 DD.length e4) (.slice a3 L.length e3) mb ba bb wr)
   case atStart=>exact⟨0,_,Z,O,i.o⟩
   case round =>
    obtain⟨k,t2,rfl,ca,c3⟩:=hrel;clear i;have i:=H c3;clear c3;by_cases U:k<DD.length
    ·have d4:(k:Int)<(DD.length:Int):=by omega
     have b5:=H (wR DD k U q1);obtain⟨g,cg,b6,g5,T⟩:=i.d.at U;obtain⟨rfl,rfl⟩:a4=some ⟨g,0,none⟩/\e4=cg:=by cases b6;exact⟨Z,Z⟩
     have el:=H (i.nd g Z).1;have E:=H (i.d.2 DD[k] (LP U));have dc:=H (show DD[k].1∈p.due from by rw[<-c6.1];exact Nn (LP U));have c0:((DD.take k).map (·.1)).length=k:=by rw[LI,Le];omega
     have ab:=H (Pr.EW ((DD.take k).map (·.1)) (p:=q1) (by rw[c7.o];exact ed.o) (fun f hf=>by obtain⟨y,hy,rfl⟩:=Md.1 hf;exact HK.wire _ (Pr.Dy (by rw[<-c6.1];exact Nn (Ni hy)))));have di:=H (Pr.Ml.fold ((DD.take k).map (·.1)) (show q1.Ml from by rw[c7.o];exact HM.o));have a5:=H ((Pr.Ee ((DD.take k).map (·.1)) q1).1.trans (by rw[c7.o]));rw[c0]at ab;clear c0;generalize ((DD.take k).map (·.1)).foldl Pr.ke q1=qk at i b5 ab di a5;obtain⟨x,hx⟩:∃x,x=DD[k]:=⟨_,Z⟩;rw[<-hx]at T E dc b5;clear hx b6;have cq:=H (HK.wire x.1 (Pr.Dy dc.o));have a7:=H (uP ab.o di.o cq.o O O);have b7:=H (zB T);have f6:wr.cell? ⟨g,k*16,none⟩=some (bI x.1.dst:Y):=T 0 D _ Z;clear T;have ac:=H HK.zu;obtain⟨X,a6⟩ | ⟨X,a6⟩:=kL x.1.dst
     focus
      rw[a6]at f6;have bk:=i.st.cell 0 t2.fa.C Z;have a7:=H (show(qk.ro false (qk.a.c.receive qk.now x.1.s).1).log.length+(qk.a.c.receive qk.now x.1.s).2.length<=500000000000/\(qk.ro false (qk.a.c.receive qk.now x.1.s).1).wire.length+2*(qk.a.c.receive qk.now x.1.s).2.length<=500000000000/\(qk.ro false (qk.a.c.receive qk.now x.1.s).1).many+(qk.a.c.receive qk.now x.1.s).2.length<=1000000000000 from by have:=a7.o;rw[X]at this;exact this);have b2:=H (show qk.ke x.1=(qk.ro false (qk.a.c.receive qk.now x.1.s).1).put false (qk.a.c.receive qk.now x.1.s).2 from by unfold Pr.ke;rw[X];rfl);rw[a5.o]at a7 b2;go_wp2_with fail;clear bk f6;refine az (fun W:World=>W.cell? t.B=some (t2.fa.C:Y)/\W.cell? ⟨t.B,13,none⟩=some (p.now:Y)/\W.rangeAt g (k*16+3) (aY (x.1.s,x.2.1,x.2.2))) (⟨i.st.cell 0 t2.fa.C Z,JX,b7.o⟩) fun G=>?_;replace i:=H (i.oz (L3 _ _).drew);replace E:=H (E.keep (L3 wr.heap.size wr).drew.size (aG.below (L3 wr.heap.size wr).drew));generalize wr.drew=w3 at i E G|-;refine aA 0 1 2 3 ?_;refine aA 4 5 6 7 ?_;refine aA 8 9 10 11 ?_;refine aA 12 13 14 15 ?_;refine aQ 16 ?_;refine sA 17 (aY (x.1.s,x.2.1,x.2.2)) (fun _ h=>h.2.2) Tryz.underlying53 ik ?_ (ha:=by((try simp only[Act.put,Ld,Li,Lk,aY]);(try rfl)));refine aZ 18 fun Kq n=> ?_;go_simp;refine(eh t2.fa qk.a.c p.now x.1.s x.2.1 x.2.2 _ i.st.pa.a ab.a.c ac.o cq.o E.o).mono ?_;rintro e w4⟨v,gg,rfl,hl,hc,f1,f3⟩;have k4:=i.st.pa.G2 false gg _ hc f1 f3;have bn:=k4.fr.block g (i.d.lt g Z).2 (i.nd g Z).1;replace i:=H (i.pair k4);have bo:=H hl;clear hl hc f1 f3 k4;go_simp;refine n.out _ _ (⟨i.st.cell 0 t2.fa.C Z,JX,fun j u hj=>(Lg (a:=⟨g,k*16+3+j,none⟩) bn).trans (G.2.2 j u hj)⟩) ?_;clear n Kq G;refine fun G=>aW ?_;have a0:=cO N _ _ false _ v _ _ i.st.pa bo.o a7.1 a7.2.1 a7.2.2 KO;rw[i.st.eB,show bI false=0 from Z]at a0;replace a0:=H a0;refine aZ 19 fun Kq n=> ?_;go_simp;refine(a0.o).mono ?_;rintro e w5⟨rfl,t5,k5⟩;have bu:=k5.fr.block g (i.d.lt g Z).2 (i.nd g Z).1;have bv:=k5.eC.1;replace i:=H (i.pair k5);clear k5;go_simp;refine n.out _ _ (⟨(i.st.cell 0 t5.fa.C Z).trans (by rw[bv];rfl),(i.st.cell 13 _ Z).trans (congrArg (fun z=>some (Value.int .i64 z)) ((bs _ _ _).2.2.1.trans a5.o)),fun j u hj=>(Lg (a:=⟨g,k*16+3+j,none⟩) bu).trans (G.2.2 j u hj)⟩) (fun aa=> ?_)
     rotate_left 1
     focus
      rw[a6]at f6;have bk:=i.st.cell 6 t2.fb.C Z;have a7:=H (show(qk.ro true (qk.b.c.receive qk.now x.1.s).1).log.length+(qk.b.c.receive qk.now x.1.s).2.length<=500000000000/\(qk.ro true (qk.b.c.receive qk.now x.1.s).1).wire.length+2*(qk.b.c.receive qk.now x.1.s).2.length<=500000000000/\(qk.ro true (qk.b.c.receive qk.now x.1.s).1).many+(qk.b.c.receive qk.now x.1.s).2.length<=1000000000000 from by have:=a7.o;rw[X]at this;exact this);have b2:=H (show qk.ke x.1=(qk.ro true (qk.b.c.receive qk.now x.1.s).1).put true (qk.b.c.receive qk.now x.1.s).2 from by unfold Pr.ke;rw[X];rfl);rw[a5.o]at a7 b2;go_wp2_with fail;clear bk f6;refine az (fun W:World=>W.cell? ⟨t.B,6,none⟩=some (t2.fb.C:Y)/\W.cell? ⟨t.B,13,none⟩=some (p.now:Y)/\W.rangeAt g (k*16+3) (aY (x.1.s,x.2.1,x.2.2))) (⟨i.st.cell 6 t2.fb.C Z,JX,b7.o⟩) fun G=>?_;replace i:=H (i.oz (L3 _ _).drew);replace E:=H (E.keep (L3 wr.heap.size wr).drew.size (aG.below (L3 wr.heap.size wr).drew));generalize wr.drew=w3 at i E G|-;refine aA 0 1 2 3 ?_;refine aA 4 5 6 7 ?_;refine aA 8 9 10 11 ?_;refine aA 12 13 14 15 ?_;refine aQ 16 ?_;refine sA 17 (aY (x.1.s,x.2.1,x.2.2)) (fun _ h=>h.2.2) Tryz.underlying53 ik ?_ (ha:=by((try simp only[Act.put,Ld,Li,Lk,aY]);(try rfl)));refine aZ 18 fun Kq n=> ?_;go_simp;refine(eh t2.fb qk.b.c p.now x.1.s x.2.1 x.2.2 _ i.st.pa.b ab.b.c ac.o cq.o E.o).mono ?_;rintro e w4⟨v,gg,rfl,hl,hc,f1,f3⟩;have k4:=i.st.pa.G2 true gg _ hc f1 f3;have bn:=k4.fr.block g (i.d.lt g Z).2 (i.nd g Z).1;replace i:=H (i.pair k4);have bo:=H hl;clear hl hc f1 f3 k4;go_simp;refine n.out _ _ (⟨i.st.cell 6 t2.fb.C Z,JX,fun j u hj=>(Lg (a:=⟨g,k*16+3+j,none⟩) bn).trans (G.2.2 j u hj)⟩) ?_;clear n Kq G;refine fun G=>aW ?_;have a0:=cO N _ _ true _ v _ _ i.st.pa bo.o a7.1 a7.2.1 a7.2.2 KO;rw[i.st.eB,show bI true=1 from Z]at a0;replace a0:=H a0;refine aZ 19 fun Kq n=> ?_;go_simp;refine(a0.o).mono ?_;rintro e w5⟨rfl,t5,k5⟩;have bu:=k5.fr.block g (i.d.lt g Z).2 (i.nd g Z).1;have bv:=k5.eC.2.1;replace i:=H (i.pair k5);clear k5;go_simp;refine n.out _ _ (⟨(i.st.cell 6 t5.fb.C Z).trans (by rw[bv];rfl),(i.st.cell 13 _ Z).trans (congrArg (fun z=>some (Value.int .i64 z)) ((bs _ _ _).2.2.1.trans a5.o)),fun j u hj=>(Lg (a:=⟨g,k*16+3+j,none⟩) bu).trans (G.2.2 j u hj)⟩) (fun aa=> ?_)
     all_goals
      clear n Kq G;refine aW ?_;have G:=aa;clear aa;refine ay ?_ _;clear G;go_wp2_with fail
      go_roundg (gk-1)
      case measure=>omega
      case rel=>exact⟨k+1,_,IY,O,by rw[b5.o,b2.o];exact i.o⟩
    have d0:k=DD.length:=O
    subst d0;rw[LS,c6.1,c7.o]at i;go_wp2_with fail
    go_end0
    exact⟨Z,t2,by rw[HR.o];exact i.st⟩
end
section
set_option maxHeartbeats 8000000
set_option maxRecDepth 100000
open Go.RowKit Go.Shelf
theorem eJ {X:Pr}{i:Bool}{l:List Sg}{q r:Int}(h:Pr.Fit (X.put i l) q r)(hw:X.wire.length<=400000000)(hm:X.Ml)(hr:r<=249600000000) :
  X.log.length+l.length<=500000000000/\X.wire.length+2*l.length<=500000000000/\X.many+l.length<=1000000000000:=by
 have h1:=h.llen;have h2:=(kI i l X).1;have a:X.many=X.log.length:=hm;omega
theorem Pr.Ml.deliver {p:Pr}(h:p.Ml):p.deliver.Ml:=Pr.Ml.fold _ (show Pr.Ml { p with wire:=p.rest }from h)
theorem Pr.Ml.ki {p:Pr}(h:p.Ml)(i:Bool):(p.ki i).Ml:=Pr.Ml.put (h.kd _ _) _ _
theorem Pr.Ml.tick {p:Pr}(h:p.Ml):p.tick.Ml:=((Pr.Ml.deliver (show Pr.Ml { p with now:=p.now+1 }from h)).ki false).ki true
def rt (p:Pr):Nat->Pr
 | 0=>p
 | 1=>p.ki false
 | _=>(p.ki false).ki true
theorem ct (N:Nat) (t:Ft) (p:Pr) (w:World) (q r:Int) (h:tT N t p w) (y:Pr.Fit p q r) (hq:q<=90000000) (hr:r<=248800000000) (hm:p.Ml) (hn:p.now+1<=1000000) :
  Calls Tryz.prog 17 #[t.B] w (lA N t w p.tick):=by
 have bc:=y.now;obtain⟨ak,al⟩:=bc;have L:=H (h.set 13 (p.now+1:Int) { p with now:=p.now+1 } Z Z Z Z Z Z);have a1:=h.cell 13 p.now Z;have eg:=h.free 13;have c8:=H (show Pr.Fit { p with now:=p.now+1 } q r from⟨y.a,y.b,⟨II,hn⟩,y.wire,y.due,y.log,y.q,y.r⟩);obtain⟨p0,u⟩:∃p0:Pr,p0={ p with now:=p.now+1 }:=⟨_,Z⟩;rw[<-u]at L c8;have cs:=H (show p0.Ml from by rw[u];exact hm);have HR:=H (show p.tick=rt p0.deliver 2 from by rw[u];rfl);have M:p0.now=p.now+1:=by rw[u]
 have dk:=H M;clear u h y hm M
 go_enter Tryz.func17,Tryz.ntmps17
 go_wp2_with fail;clear a1 eg;generalize w.setCell ⟨t.B,13,none⟩ (p.now+1:Int)=w1 at L|-;refine(pj N t p0 w1 q r L.pa c8.o O O cs.o).mono ?_;rintro e w2⟨rfl,t1,k1⟩;have cw:=H (L.trans k1);clear k1 L;have P:=H (Pr.Df c8.o);have dT:=H cs.deliver;have d0:=H (show p0.deliver.now=p.now+1 from((Pr.Ee _ _).1).trans dk.o);obtain⟨j,S⟩:∃j,j=p0.deliver:=⟨_,Z⟩;rw[<-S]at cw P dT d0 HR;clear S c8 cs dk;go_wp2_with fail
 go_loopg [2] 2 (fun g iv wr=>∃(k:Nat) (m:Ft),iv=((k:Int):Y)/\g+k=2/\pE N t w m (rt j k) wr)
 case atStart=>exact⟨0,t1,Z,Z,cw.o⟩
 case round =>
  obtain⟨k,m,rfl,ca,T⟩:=hrel;have d:=H T;clear T cw;have a2:k=0\/k=1\/k=2:=O
  rcases a2 with a3 | a4 | a5
  ·subst a3;have E:=H (show Pr.Fit (rt j 0) _ _ from P.o);have U:=H (show Pr.Fit ((rt j 0).ki false) _ _ from Pr.vw P.o false);have V:=H (show(rt j 0).Ml from dT.o);have n:=H (show(rt j 0).now=p.now+1 from d0.o);have b5:=H (show rt j 1=(rt j 0).ki false from Z);generalize rt j 0=pk at d E U V n b5;have b2:=H (show pk.ki false=(pk.ro false (pk.a.c.tick (p.now+1)).1).put false (pk.a.c.tick (p.now+1)).2 from by rw[<-n.o];rfl);have F:=E.E0;have I:=H (eJ (X:=pk.ro false (pk.a.c.tick (p.now+1)).1) (i:=false) (l:=(pk.a.c.tick (p.now+1)).2) (by rw[<-b2.o];exact U.o) (by show pk.wire.length<=400000000;omega) (V.kd false _) O);clear F;have ac:=H (show aI (p.now+1)from by unfold aI;omega);have bk:=d.cell 0 m.fa.C Z;go_wp2_with fail;clear bk;refine az (fun W:World=>W.cell? t.B=some (m.fa.C:Y)/\W.cell? ⟨t.B,13,none⟩=some ((p.now+1:Int):Y)) (⟨d.cell 0 m.fa.C Z,JY⟩) fun s=>?_;replace d:=H (d.oz (L3 _ _).drew);generalize wr.drew=w3 at d s|-;refine aA 0 1 2 3 ?_;refine aA 4 5 6 7 ?_;refine aA 8 9 10 11 ?_;refine aQ 12 ?_;refine aZ 13 fun J f=> ?_;go_simp;refine(oS m.fa pk.a.c (p.now+1) _ d.pa.a E.a.c ac.o).mono ?_;rintro e w4⟨v,rfl,hl,hc,x⟩;have k4:=d.pa.G2 false m.fa.G _ hc x (.inl Z);replace d:=H (d.trans k4);have bo:=H hl;clear hl hc x k4;go_simp;refine f.out _ _ (⟨d.cell 0 m.fa.C Z,JY⟩) ?_;clear f J s;refine fun s=>aW ?_;have A:=cO N _ _ false _ v _ _ d.pa bo.o I.1 I.2.1 I.2.2 (by show 0<=pk.now/\pk.now<=1000000;rw[n.o];omega);rw[d.eB,show bI false=0 from Z]at A;replace A:=H A;refine aZ 14 fun J f=> ?_;go_simp;refine(A.o).mono ?_;rintro e w5⟨rfl,t5,K⟩;have bv:=K.eC.1;replace d:=H (d.trans K);clear K;go_simp;refine f.out _ _ (⟨(d.cell 0 t5.fa.C Z).trans (by rw[bv];rfl),(d.cell 13 _ Z).trans (congrArg (fun z=>some (Value.int .i64 z)) ((bs _ _ _).2.2.1.trans n.o))⟩) ?_;clear f J s;refine fun s=>aW ?_;refine ay ?_ _;clear s;go_wp2_with fail
   go_roundg (gk-1)
   case measure=>omega
   case rel=>exact⟨1,_,IP,O,by rw[b5.o,b2.o];exact d.o⟩
  ·subst a4;have E:=H (show Pr.Fit (rt j 1) _ _ from(Pr.vw P.o false));have U:=H (show Pr.Fit ((rt j 1).ki true) _ _ from Pr.vw (Pr.vw P.o false) true);have V:=H (show(rt j 1).Ml from dT.ki false);have n:=H (show(rt j 1).now=p.now+1 from((bs _ _ _).2.2.1).trans d0.o);have b5:=H (show rt j 2=(rt j 1).ki true from Z);generalize rt j 1=pk at d E U V n b5;have b2:=H (show pk.ki true=(pk.ro true (pk.b.c.tick (p.now+1)).1).put true (pk.b.c.tick (p.now+1)).2 from by rw[<-n.o];rfl);have F:=E.E0;have I:=H (eJ (X:=pk.ro true (pk.b.c.tick (p.now+1)).1) (i:=true) (l:=(pk.b.c.tick (p.now+1)).2) (by rw[<-b2.o];exact U.o) (by show pk.wire.length<=400000000;omega) (V.kd true _) O);clear F;have ac:=H (show aI (p.now+1)from by unfold aI;omega);have bk:=d.cell 6 m.fb.C Z;go_wp2_with fail;clear bk;refine az (fun W:World=>W.cell? ⟨t.B,6,none⟩=some (m.fb.C:Y)/\W.cell? ⟨t.B,13,none⟩=some ((p.now+1:Int):Y)) (⟨d.cell 6 m.fb.C Z,JY⟩) fun s=>?_;replace d:=H (d.oz (L3 _ _).drew);generalize wr.drew=w3 at d s|-;refine aA 0 1 2 3 ?_;refine aA 4 5 6 7 ?_;refine aA 8 9 10 11 ?_;refine aQ 12 ?_;refine aZ 13 fun J f=> ?_;go_simp;refine(oS m.fb pk.b.c (p.now+1) _ d.pa.b E.b.c ac.o).mono ?_;rintro e w4⟨v,rfl,hl,hc,x⟩;have k4:=d.pa.G2 true m.fb.G _ hc x (.inl Z);replace d:=H (d.trans k4);have bo:=H hl;clear hl hc x k4;go_simp;refine f.out _ _ (⟨d.cell 6 m.fb.C Z,JY⟩) ?_;clear f J s;refine fun s=>aW ?_;have A:=cO N _ _ true _ v _ _ d.pa bo.o I.1 I.2.1 I.2.2 (by show 0<=pk.now/\pk.now<=1000000;rw[n.o];omega);rw[d.eB,show bI true=1 from Z]at A;replace A:=H A;refine aZ 14 fun J f=> ?_;go_simp;refine(A.o).mono ?_;rintro e w5⟨rfl,t5,K⟩;have bv:=K.eC.2.1;replace d:=H (d.trans K);clear K;go_simp;refine f.out _ _ (⟨(d.cell 6 t5.fb.C Z).trans (by rw[bv];rfl),(d.cell 13 _ Z).trans (congrArg (fun z=>some (Value.int .i64 z)) ((bs _ _ _).2.2.1.trans n.o))⟩) ?_;clear f J s;refine fun s=>aW ?_;refine ay ?_ _;clear s;go_wp2_with fail
   go_roundg (gk-1)
   case measure=>omega
   case rel=>exact⟨2,_,IP,O,by rw[b5.o,b2.o];exact d.o⟩
  subst a5;go_wp2_with fail
  go_end0
  exact⟨Z,m,by rw[HR.o];exact d.o⟩
end
end Go.Proofs.YtcmncipikdpnbaaGreatDoor
