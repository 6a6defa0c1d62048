import Derived.Test.YtclkcmidhhfdmaaGreatDoorUb14
namespace Go.Proofs.YtclkcmidhhfdmaaGreatDoor
open Lib (hid)
section
set_option maxRecDepth 100000
open Go.RowKit Go.Shelf
theorem n7 {e:Int}{L:List Sp}(h:aH e L=true)(he:e<=1099511627776):e+2*L.length<=1099511627776:=by
 induction L generalizing e with
 | nil=>simp;omega
 | cons x l ih =>
  rw[aA]at h;have:=ih h.2 h.1.2.2.2;rw[List.length_cons];omega
theorem jX {L:List Sp}(h:ae L=true):2*L.length<=1099511627777:=by
 have:=n7 (e:= -1) h (by omega);omega
theorem aP {B i:Nat}{v:Value}{w w':World}(h:w.cell? ⟨B,i,none⟩=some v)(hb:Below w.heap.size w w'):w'.cell? ⟨B,i,none⟩=some v :=
 (hb.cell (p:=⟨B,i,none⟩) (block_lt_of_cell h)).trans h
structure Er (C X B lb:Nat)(s:Sc)(x1 x2:Int)(w W:World):Prop where
 cC:W.cell? C=some (B:Y)
 x0:W.cell? X=some (x1:Y)
 x1:W.cell? ⟨X,1,none⟩=some (x2:Y)
 hs:bD B lb s W
 chg:Chg B w W
 ne:C≠B/\X≠B
theorem Er.below {C X B lb:Nat}{s:Sc}{x1 x2:Int}{w W W':World}(h:Er C X B lb s x1 x2 w W)(hb:Below W.heap.size W W'):Er C X B lb s x1 x2 w W' :=
 ⟨aP h.cC hb,aP h.x0 hb,aP h.x1 hb,h.hs.below hb,h.chg.trans (Chg.of_below hb),h.ne⟩
theorem Er.drew {C X B lb:Nat}{s:Sc}{x1 x2:Int}{w W:World}(h:Er C X B lb s x1 x2 w W):Er C X B lb s x1 x2 w W.drew:=h.below (Below.refl _ _).drew
set_option maxHeartbeats 4000000 in
theorem iG (C X B lb:Nat) (s:Sc) (x1 x2:Int) (w:World) (ok:s.Ok) (cC:w.cell? C=some (B:Y)) (h1:w.cell? X=some (x1:Y)) (h2:w.cell? ⟨X,1,none⟩=some (x2:Y))
  (ne:C≠B/\X≠B) (hs:bD B lb s w) :
  Calls Tryz.prog 201 #[C,X] w fun e w'=>∃v,e= .returned v/\v=(s.retE (x1,x2):Y)/\bD B lb (s.ret (x1,x2)) w'/\Chg B w w':=by
 have al:=hid ok;have HE:=hid (⟨cC,h1,h2,hs,Chg.refl B w,ne⟩:Er C X B lb s x1 x2 w w);clear ok cC h1 h2 ne hs
 go_enter Tryz.func201,Tryz.ntmps201
 have cC:=HE.cC;have cX:=HE.x0;have cY:=HE.x1;go_wp2_with fail;refine(i6 B lb s (x1,x2) _ HE.hs).mono ?_;rintro e w2⟨rfl,hb⟩;replace HE:=hid (HE.below hb);clear hb cC cX cY
 cases hib:s.inB (x1,x2)with
 | false =>
  go_wp2;go_ret;exact⟨_,rfl,by unfold Sc.retE;rw[if_neg (by rw[hib];exact Bool.noConfusion)];rfl,by unfold Sc.ret;rw[if_neg (by rw[hib];exact Bool.noConfusion)];exact HE.hs,HE.chg⟩
 | true =>
  have d7:=hid hib;clear hib;have cF:=hid (al.ret_spec d7.o);go_wp2_with fail;obtain⟨sa,sc,ga,gc,⟨k0,-⟩,-,-,⟨k3,-⟩,-,-,-⟩:=HE.hs.ats;refine bC (fun W:World=>W.cell? C=some (B:Y)/\W.cell? X=some (x1:Y)/\W.cell? ⟨X,1,none⟩=some (x2:Y)/\W.cell? B=some (s.una:Y)/\W.cell? ⟨B,3,none⟩=some (.slice sa s.sk.length sc)) (⟨HE.cC,HE.x0,HE.x1,k0,k3⟩) fun hZ=>?_;clear k0 k3;replace HE:=hid HE.drew;obtain⟨y0,hy0⟩:∃y0,y0=w2.drew:=⟨_,rfl⟩;rw[<-hy0]at HE hZ|-;clear hy0;obtain⟨fb,fl,ga,gc,-,-,-,⟨k3,-⟩,-,b5,-⟩:=HE.hs.ats;obtain⟨rfl,rfl⟩:sa=fb/\sc=fl:=by have:=hZ.2.2.2.2.symm.trans k3;injection this with e;injection e with e1 e2 e3;exact⟨e1,e3⟩
  clear k3;refine aB 0 4 8 1 ?_;refine aB 9 2 10 3 ?_;refine aO 11 ?_;refine aX 5 fun Kq hKq=> ?_;go_simp;have hb:=bU y0 (.cells #[x1,x2] 92)
  have hx:=(show SpAt (y0.alloc (.cells #[x1,x2] 92)) (y0.alloc (.cells #[x1,x2] 92)).heap.size (some ⟨y0.heap.size,0,none⟩) [(x1,x2)]from⟨by simp,fun _=>⟨y0.heap.size,0,rfl,by simp,fun i hi=>by
   obtain rfl:i=0:=by simp at hi;omega
   exact⟨(At.new (W:=y0) (vs:= #[x1,x2]) _ rfl rfl).1,(At.new (W:=y0) (vs:= #[x1,x2]) _ rfl rfl).1⟩⟩⟩)
  have hK:=(show(y0.alloc (.cells #[x1,x2] 92)).cell? C=some (B:Y)/\(y0.alloc (.cells #[x1,x2] 92)).cell? X=some (x1:Y)/\(y0.alloc (.cells #[x1,x2] 92)).cell? ⟨X,1,none⟩=some (x2:Y)/\(y0.alloc (.cells #[x1,x2] 92)).cell? B=some (s.una:Y)/\(y0.alloc (.cells #[x1,x2] 92)).cell? ⟨B,3,none⟩=some (.slice sa s.sk.length sc)from⟨aP hZ.1 hb,aP hZ.2.1 hb,aP hZ.2.2.1 hb,aP hZ.2.2.2.1 hb,aP hZ.2.2.2.2 hb⟩);replace HE:=hid (HE.below hb);replace b5:=b5.below hb;have hsz1:=hb.size;generalize fp:y0.heap.size=N0 at hx hsz1|-;generalize y0.alloc (.cells #[x1,x2] 92)=y1 at HE hx hK b5 hsz1|-;clear hb fp;refine hKq.out _ _ (hK) ?_;clear hKq Kq hZ;refine fun hZ=>aT ?_;clear hK;refine aX 6 fun Kq hKq=> ?_;go_simp;have hb:=bU y1 (.cells #[.slice (some ⟨N0,0,none⟩) 1 1] 41)
  have hlat:i5 y1.heap.size [(some ⟨N0,0,none⟩,1,[(x1,x2)])] (y1.alloc (.cells #[.slice (some ⟨N0,0,none⟩) 1 1] 41)):=⟨by simp,fun i hi=>by
   obtain rfl:i=0:=by simp at hi;omega
   exact⟨(At.new (W:=y1) (vs:= #[.slice (some ⟨N0,0,none⟩) 1 1]) _ rfl rfl).1,(hx.below hb).mono hb.size⟩⟩
  have hK:=(show(y1.alloc (.cells #[.slice (some ⟨N0,0,none⟩) 1 1] 41)).cell? C=some (B:Y)/\(y1.alloc (.cells #[.slice (some ⟨N0,0,none⟩) 1 1] 41)).cell? X=some (x1:Y)/\(y1.alloc (.cells #[.slice (some ⟨N0,0,none⟩) 1 1] 41)).cell? ⟨X,1,none⟩=some (x2:Y)/\(y1.alloc (.cells #[.slice (some ⟨N0,0,none⟩) 1 1] 41)).cell? B=some (s.una:Y)/\(y1.alloc (.cells #[.slice (some ⟨N0,0,none⟩) 1 1] 41)).cell? ⟨B,3,none⟩=some (.slice sa s.sk.length sc)from⟨aP hZ.1 hb,aP hZ.2.1 hb,aP hZ.2.2.1 hb,aP hZ.2.2.2.1 hb,aP hZ.2.2.2.2 hb⟩);replace HE:=hid (HE.below hb);replace b5:=b5.below hb;generalize y1.alloc (.cells #[.slice (some ⟨N0,0,none⟩) 1 1] 41)=y2 at HE hlat hK b5|-;have c9:=hid hlat;clear hb hx hlat;refine hKq.out _ _ (hK) ?_;clear hKq Kq hZ;refine fun hZ=>aT ?_;clear hK;have bd:=hid (show cm [(some ⟨N0,0,none⟩,1,[(x1,x2)])]=[(x1,x2)] by simp[cm]);refine aX 7 fun Kq hKq=> ?_;go_simp;refine(fY s.una _ 1 1 [(some ⟨N0,0,none⟩,1,[(x1,x2)])] y2 rfl c9.o al.u0 (by rw[bd.o];intro y hy;rw[List.mem_singleton.1 hy];have h1:=Sc.inB_iff.1 d7.o;have h2:=al.n40;unfold gb;dsimp only at h1|-;omega) (by rw[bd.o];simp) (by omega)).mono ?_;rintro e y3⟨v,rfl,hO,hb⟩;rw[bd.o]at hO;obtain⟨vb,vd,rfl,-⟩:=hO.val;have hls:=(ay.own hO (bR cF.1.1) (Nat.le_refl _)).1;have hK:=(show y3.cell? C=some (B:Y)/\y3.cell? X=some (x1:Y)/\y3.cell? ⟨X,1,none⟩=some (x2:Y)/\y3.cell? B=some (s.una:Y)/\y3.cell? ⟨B,3,none⟩=some (.slice sa s.sk.length sc)from⟨aP hZ.1 hb,aP hZ.2.1 hb,aP hZ.2.2.1 hb,aP hZ.2.2.2.1 hb,aP hZ.2.2.2.2 hb⟩);replace HE:=hid (HE.below hb);replace b5:=b5.below hb;clear hO hb c9 bd;go_simp;refine hKq.out _ _ (hK) ?_;clear hKq Kq hZ;refine fun hZ=>aT ?_;clear hK;refine aX 12 fun Kq hKq=> ?_;go_simp;refine(gH y3 y3.heap.size vb sa vd sc (bF s.una [(x1,x2)]) s.sk _ _ hls.1 b5.1 b5.2.1 (Nat.le_refl _) cF.1.1 al.csk).mono ?_;rintro e y4⟨v,rfl,hO,hb⟩;obtain⟨st,hst⟩:∃st,st=dI (bF s.una [(x1,x2)]) s.sk:=⟨_,rfl⟩;rw[<-hst]at hO;have eb:=hid (show ae st=true by rw[hst];exact(ew cF.1.1 al.csk).1);have dl:=hid (show(∀y∈s.ag++st,gb y)/\s.retS (x1,x2)={ s with ag:=bF s.una (s.ag++st) } by rw[hst];exact⟨cF.1.2,rfl⟩);obtain⟨va,vc,rfl,-⟩:=hO.val;have hlv:=(ay.own hO (bR eb.o) (Nat.le_refl _)).1;have hK:=(show y4.cell? C=some (B:Y)/\y4.cell? X=some (x1:Y)/\y4.cell? ⟨X,1,none⟩=some (x2:Y)/\y4.cell? B=some (s.una:Y)/\y4.cell? ⟨B,3,none⟩=some (.slice sa s.sk.length sc)from⟨aP hZ.1 hb,aP hZ.2.1 hb,aP hZ.2.2.1 hb,aP hZ.2.2.2.1 hb,aP hZ.2.2.2.2 hb⟩);replace HE:=hid (HE.below hb);clear hO hb hls b5 hst;go_simp;refine hKq.out _ _ (hK) ?_;clear hKq Kq hZ;refine fun hZ=>aT ?_;clear hK;refine aO 13 ?_;refine az ?_ _;clear hZ;go_wp2_with fail;obtain⟨-,-,-,-,⟨k0,-⟩,-,-,-,-,-,-⟩:=HE.hs.ats;refine bC (fun W:World=>W.cell? C=some (B:Y)/\W.cell? B=some (s.una:Y)) (⟨HE.cC,k0⟩) fun hZ=>?_;clear k0;replace HE:=hid HE.drew;replace hlv:=hlv.below (Below.refl _ _).drew;obtain⟨y5,ec⟩:∃y5,y5=y4.drew:=⟨_,rfl⟩;rw[<-ec]at HE hZ hlv|-;clear ec;obtain⟨sa,sc,ga,gc,-,-,-,-,⟨k4,g4⟩,-,eg⟩:=HE.hs.ats;refine aB 0 1 5 9 ?_;refine aB 2 6 3 7 ?_;refine aO 4 ?_;refine aX 8 fun Kq hKq=> ?_;go_simp;refine hKq.out _ _ (hZ) ?_;clear hKq Kq hZ;refine fun hZ=>aT ?_;refine aX 10 fun Kq hKq=> ?_;go_simp;have hb:=bU y5 (.cells #[.slice ga s.ag.length gc,.slice va st.length vc] 41)
  have hlat:i5 y5.heap.size [(ga,gc,s.ag),(va,vc,st)] (y5.alloc (.cells #[.slice ga s.ag.length gc,.slice va st.length vc] 41)):=⟨by simp,fun i hi=>by
   rcases(show i=0\/i=1 by simp at hi;omega)with rfl | rfl
   ·exact⟨(At.new (W:=y5) (vs:= #[.slice ga s.ag.length gc,.slice va st.length vc]) _ rfl rfl).1,(eg.1.below hb).mono hb.size⟩
   exact⟨(At.new (W:=y5) (vs:= #[.slice ga s.ag.length gc,.slice va st.length vc]) _ rfl rfl).1,(hlv.1.below hb).mono hb.size⟩⟩
  have hK:=(show(y5.alloc (.cells #[.slice ga s.ag.length gc,.slice va st.length vc] 41)).cell? C=some (B:Y)/\(y5.alloc (.cells #[.slice ga s.ag.length gc,.slice va st.length vc] 41)).cell? B=some (s.una:Y)from⟨aP hZ.1 hb,aP hZ.2 hb⟩);replace HE:=hid (HE.below hb);generalize y5.alloc (.cells #[.slice ga s.ag.length gc,.slice va st.length vc] 41)=y6 at HE hlat hK|-;have c9:=hid hlat;clear hb hlat eg hlv k4 g4;refine hKq.out _ _ (hK) ?_;clear hKq Kq hZ;refine fun hZ=>aT ?_;clear hK;have bd:=hid (show cm [(ga,gc,s.ag),(va,vc,st)]=s.ag++st by simp[cm]);refine aX 11 fun Kq hKq=> ?_;go_simp;refine(fY s.una _ 2 2 [(ga,gc,s.ag),(va,vc,st)] y6 rfl c9.o al.u0 (by rw[bd.o];exact dl.1) (by rw[bd.o,List.length_append];have h1:=jX al.cag;have h2:=jX eb.o;omega) (by omega)).mono ?_;rintro e y7⟨v,rfl,hO,hb⟩;rw[bd.o]at hO;obtain⟨vb,vd,rfl,-⟩:=hO.val;obtain⟨ag,hag⟩:∃ag,ag=bF s.una (s.ag++st):=⟨_,rfl⟩;rw[<-hag]at hO|-;have ei:=hid (show ae ag=true/\s.retS (x1,x2)={ s with ag:=ag } by rw[hag];refine⟨?_,dl.2⟩;have:=cF.2.1;rw[dl.2]at this;exact this);have hls:=(ay.own hO (bR ei.1) (show lb<=y6.heap.size by have:=HE.hs.2.1.1;omega)).1;have ab:=hid hls;have hK:=(show y7.cell? C=some (B:Y)/\y7.cell? B=some (s.una:Y)from⟨aP hZ.1 hb,aP hZ.2 hb⟩);replace HE:=hid (HE.below hb);clear hO hb hls c9 bd hag;go_simp;refine hKq.out _ _ (hK) ?_;clear hKq Kq hZ;refine fun hZ=>aT ?_;clear hK;refine aK 12 13 ?_;obtain⟨gk,gm,gs,gw,-,-,-,-,⟨k4,g4⟩,-,-⟩:=HE.hs.ats;refine aX 14 fun Kq hKq=> ?_;go_simp;clear k4 g4;have hch:=(Chg.refl B y7).setCell 4 (.slice vb ag.length vd);have hK:=(show(y7.setCell ⟨B,4,none⟩ (.slice vb ag.length vd)).cell? C=some (B:Y)/\(y7.setCell ⟨B,4,none⟩ (.slice vb ag.length vd)).cell? B=some (s.una:Y)from⟨bg hZ.1 hch HE.ne.1,(World.cell?_setCell_other _ _ _ _ (by intro e;cases e)).trans hZ.2⟩);have HF:=hid (HE.hs.setAg ab.o);have el:=hid (HE.chg.trans hch);generalize (y7.setCell ⟨B,4,none⟩ (.slice vb ag.length vd))=y8 at HF el hK|-;clear hch ab;refine hKq.out _ _ (hK) ?_;clear hKq Kq hZ;refine fun hZ=>aT ?_;clear hK;refine az ?_ _;clear hZ
  skip
  go_wp2;go_ret;exact⟨_,rfl,by unfold Sc.retE;rw[if_pos d7.o];rfl,by unfold Sc.ret;rw[if_pos d7.o,ei.2];exact HF.o,el.o⟩
set_option maxHeartbeats 1000000 in
theorem gf (B lb:Nat) (s:Sc) (x1 x2:Int) (w:World) (ok:s.Ok) (hs:bD B lb s w) :
  Calls Tryz.prog 165 #[B,.agg #[x1,x2]] w fun e w'=>e= .returned (s.retE (x1,x2))/\bD B lb (s.ret (x1,x2)) w'/\Chg B w w':=by
 have hlt:=hs.lt;have hb1:=(Below.refl w.heap.size w).alloc (Nat.le_refl _) (.cells #[B] 93);have hb:=hb1.alloc (by simp) (.cells #[x1,x2] 92);have a0:=(show At w.heap.size 0 B _ from At.new (W:=w) (vs:= #[B]) 93 rfl rfl).alloc (.cells #[x1,x2] 92);have a1:=(show At (w.heap.size+1) 0 x1 _ from At.new (W:=w.alloc (.cells #[B] 93)) (vs:= #[x1,x2]) 92 (by simp) rfl);have a2:=(show At (w.heap.size+1) 1 x2 _ from At.new (W:=w.alloc (.cells #[B] 93)) (vs:= #[x1,x2]) 92 (by simp) rfl);have hc:=Chg.of_below (B:=B) hb;have HU:=hid (iG w.heap.size (w.heap.size+1) B lb s x1 x2 ((w.alloc (.cells #[B] 93)).alloc (.cells #[x1,x2] 92)) ok a0.1 a1.1 a2.1 ⟨by omega,by omega⟩ (hs.below hb));have HC:=hid hc;clear hb1 hb a0 a1 a2 hc hs ok
 go_enter Tryz.func165,Tryz.ntmps165
 go_wp2_with fail;refine(gI _ _ _ _ HU.o).mono ?_;rintro e w2⟨v,rfl,rfl,hS,hch⟩;have fr:=hid (HC.trans hch);have HS:=hid hS;clear hS hch HU HC;go_wp2;go_ret;exact⟨rfl,HS.o,fr.o⟩
end
section
set_option maxRecDepth 100000
open Go.RowKit Go.Shelf
structure Gv (n₀ C M B:Nat)(s:Sc)(m:Int)(sa:Option Addr)(sc:Nat)(W:World):Prop where
 cC:W.cell? C=some (B:Y)
 cM:W.cell? M=some (m:Y)
 c0:W.cell? B=some (s.una:Y)
 c1:W.cell? ⟨B,1,none⟩=some (s.next:Y)
 c2:W.cell? ⟨B,2,none⟩=some (s.mark:Y)
 c3:W.cell? ⟨B,3,none⟩=some (.slice sa s.sk.length sc)
 ls:SpAt W n₀ sa s.sk
 cap:s.sk.length<=sc
 lt:B<n₀
 hz:n₀<=W.heap.size
theorem bJ {n₀ B i:Nat}{v:Value}{w w':World}(h:w.cell? ⟨B,i,none⟩=some v)(hB:B<n₀)(hb:Below n₀ w w'):w'.cell? ⟨B,i,none⟩=some v :=
 (hb.cell (p:=⟨B,i,none⟩) hB).trans h
theorem Gv.next {n₀ C M B:Nat}{s:Sc}{m:Int}{sa:Option Addr}{sc:Nat}{W W':World}(h:Gv n₀ C M B s m sa sc W)(hb:Below n₀ W W')(hC:W'.cell? C=some (B:Y))(hM:W'.cell? M=some (m:Y)):Gv n₀ C M B s m sa sc W' :=
 ⟨hC,hM,bJ h.c0 h.lt hb,bJ h.c1 h.lt hb,bJ h.c2 h.lt hb,bJ h.c3 h.lt hb,h.ls.below hb,h.cap,h.lt,Nat.le_trans h.hz hb.size⟩
theorem Gv.below {n₀ C M B:Nat}{s:Sc}{m:Int}{sa:Option Addr}{sc:Nat}{W W':World}(h:Gv n₀ C M B s m sa sc W)(hb:Below W.heap.size W W'):Gv n₀ C M B s m sa sc W' :=
 h.next (hb.mono h.hz) (bJ h.cC (block_lt_of_cell h.cC) hb) (bJ h.cM (block_lt_of_cell h.cM) hb)
structure Gi (n₀ N C M B:Nat)(s:Sc)(m:Int)(sa:Option Addr)(sc:Nat)(ga:Option Addr)(cl:World->Nat->Prop)(W:World):Prop where
 g:Gv n₀ C M B s m sa sc W
 gl:SpAt W W.heap.size ga s.gaps
 own:∀ad,ga=some ad->N<=ad.block/\¬cl W ad.block
def Gr (n₀ N C M B:Nat)(s:Sc)(m:Int)(sa:Option Addr)(sc:Nat)(ga:Option Addr)(cl:World->Nat->Prop)(J:Nat->World->Prop)(g:Nat)(kv spv smv:Value)(W:World):Prop :=
 ∃(k:Nat) (sp:List Sp) (a:Option Addr) (c:Nat),kv=((k:Int):Y)/\g+k=s.gaps.length/\spv= .slice a sp.length c/\smv=(aC sp:Y)/\SpAt W n₀ a sp/\sp.length<=c/\(∃e,aH e sp=true) /\
  (∀i (h:i<s.gaps.length),k<=i->jb s.gaps[i].1 sp=jb s.gaps[i].1 s.sk)/\Gi n₀ N C M B s m sa sc ga cl W/\J k W/\N<=W.heap.size
def Gq (n₀ N C M B:Nat)(s:Sc)(m:Int)(sa:Option Addr)(sc:Nat)(ga:Option Addr)(cl:World->Nat->Prop)(J:Nat->World->Prop)(k X:Nat)(x1 x2:Int)(g:Nat)(spv smv:Value)(W:World):Prop :=
 ∃(sp:List Sp) (a:Option Addr) (c:Nat),g=sp.length/\spv= .slice a sp.length c/\smv=(aC sp:Y)/\SpAt W n₀ a sp/\sp.length<=c/\(∃e,aH e sp=true) /\
  (∀i (h:i<s.gaps.length),k<=i->jb s.gaps[i].1 sp=jb s.gaps[i].1 s.sk)/\Gi n₀ N C M B s m sa sc ga cl W/\J k W/\N<=W.heap.size/\At X 0 x1 W/\At X 1 x2 W/\N<=X
theorem lY {W:World}{n₀ b off:Nat}{y:Sp}{t:List Sp}(h:SpAt W n₀ (some ⟨b,off,none⟩) (y::t)):SpAt W n₀ (some ⟨b,off+2,none⟩) t:=by
 refine⟨by have:=h.small;rw[List.length_cons]at this;omega,fun hl=> ?_⟩;obtain⟨b1,o1,e,hb,hcs⟩:=h.cells (by simp)
 cases e
 refine⟨b,off+2,rfl,hb,fun i hi=> ?_⟩;have:=hcs (i+1) (by simp;omega);rw[List.getElem_cons_succ]at this;rw[show off+2+i*2=off+(i+1)*2 by omega];exact this
theorem Gi.below {n₀ N C M B:Nat}{s:Sc}{m:Int}{sa:Option Addr}{sc:Nat}{ga:Option Addr}{cl:World->Nat->Prop}{W W':World}(h:Gi n₀ N C M B s m sa sc ga cl W)(hb:Below W.heap.size W W')(hc:∀b,cl W' b->cl W b):Gi n₀ N C M B s m sa sc ga cl W' :=
 ⟨h.g.below hb,(h.gl.below hb).mono hb.size,fun ad e=>⟨(h.own ad e).1,fun hcl=>(h.own ad e).2 (hc _ hcl)⟩⟩
theorem Gi.next {n₀ N C M B:Nat}{s:Sc}{m:Int}{sa:Option Addr}{sc:Nat}{ga:Option Addr}{cl:World->Nat->Prop}{W W':World}(h:Gi n₀ N C M B s m sa sc ga cl W)(hb:Below n₀ W W')(_hsz:N<=W.heap.size)(hcl:∀b,b<W.heap.size->N<=b->¬cl W b->W'.heap[b]? =W.heap[b]? /\¬cl W' b)(hlt:∀ad,ga=some ad->ad.block<W.heap.size)(hC:W'.cell? C=some (B:Y)/\W'.cell? M=some (m:Y)):Gi n₀ N C M B s m sa sc ga cl W':=by
 refine⟨h.g.next hb hC.1 hC.2,⟨h.gl.small,fun hl=> ?_⟩,fun ad e=>⟨(h.own ad e).1,(hcl _ (hlt ad e) (h.own ad e).1 (h.own ad e).2).2⟩⟩;obtain⟨b,off,ha,hbl,hc⟩:=h.gl.cells hl;have hk:=(hcl b hbl (h.own _ ha).1 (h.own _ ha).2).1;exact⟨b,off,ha,Nat.lt_of_lt_of_le hbl hb.size,fun i hi=>⟨(World.cell?_of_block (a:=⟨b,_,none⟩) hk).trans (hc i hi).1,(World.cell?_of_block (a:=⟨b,_,none⟩) hk).trans (hc i hi).2⟩⟩
set_option maxHeartbeats 4000000 in
theorem qy (n:Nat) (hn:1<=n) (l n₀ C M B:Nat) (s:Sc) (ok:s.Ok) (m:Int) (sa:Option Addr) (sc:Nat) (w:World) (cl:World->Nat->Prop) (J Jx:Nat->World->Prop)
  (hJ:∀k W W',J k W->Below W.heap.size W W'->J k W'/\∀b,cl W' b->cl W b/\b<W.heap.size)
  (hY:∀k (h:k<s.gaps.length) W1,J k W1->YieldAt Fence.wide (n-1) Tryz.prog l #[.agg #[s.gaps[k].1,s.gaps[k].2],.agg #[(s.lostOf m s.gaps[k]).1,(s.lostOf m s.gaps[k]).2]] W1 fun e W' =>
   (e= .returned true/\J (k+1) W'/\Below n₀ W1 W'/\∀b,b<W1.heap.size->w.heap.size<=b->¬cl W1 b->W'.heap[b]? =W1.heap[b]? /\¬cl W' b)\/(e= .returned false/\Jx k W'))
  (hJC:∀k W,J k W->W.cell? C=some (B:Y)/\W.cell? M=some (m:Y)) (hG:Gv n₀ C M B s m sa sc w) (h0:J 0 w) :
  CallsIn Fence.wide n Tryz.prog 212 #[.func (.yield l) #[] #[],C,M] w fun e W'=>(∃v,e= .returned v)/\(J s.gaps.length W'\/∃k,k<s.gaps.length/\Jx k W'):=by
 have al:=hid ok;have HG:=hid hG;have HJ:=hid hJ;have dn:=hid hJC;have HY:=hid hY;have av:=hid h0;have fv:=hid (show dH s.sk=aC s.sk by unfold dH;rw[if_pos ok.csk]);have fx:=hid (show ∀i j (h1:i<=j) (h2:j<s.gaps.length),s.gaps[i].1<=s.gaps[j].1 from qW s);have d8:=hid (show s.gaps.length<=1099511627776 from jx s);clear ok hG hJ hJC hY h0;refine callsIn_of_wp Tryz.func212 rfl trivial ?_ rfl;simp only[Tryz.ntmps212,List.size_toArray,List.length_cons,List.length_nil,Nat.reduceAdd,Nat.reduceSub,Array.replicate_succ,Array.replicate_zero,List.push_toArray,List.append_toArray,List.nil_append,List.cons_append];refine wpIn_wide.2 ?_;have hK:=(show w.cell? C=some (B:Y)/\w.cell? B=some (s.una:Y)/\w.cell? ⟨B,1,none⟩=some (s.next:Y)/\w.cell? ⟨B,3,none⟩=some (.slice sa s.sk.length sc)from⟨HG.cC,HG.c0,HG.c1,HG.c3⟩);go_wp2_with fail;refine bC (fun W:World=>W.cell? C=some (B:Y)/\W.cell? B=some (s.una:Y)/\W.cell? ⟨B,1,none⟩=some (s.next:Y)/\W.cell? ⟨B,3,none⟩=some (.slice sa s.sk.length sc)) (hK) fun hZ=>?_;clear hK;replace HG:=hid (HG.below (Below.refl _ w).drew);replace av:=hid (HJ.o 0 w w.drew av.o (Below.refl _ _).drew).1;have a6:=hid (Nat.le_refl w.heap.size);obtain⟨y0,hy0⟩:∃y0,y0=w.drew:=⟨_,rfl⟩;replace a6:Hid (w.heap.size<=y0.heap.size):=by rw[hy0];exact a6
 rw[<-hy0]at HG av hZ|-;clear hy0;refine aB 0 4 1 5 ?_;refine aB 2 6 3 7 ?_;refine aX 8 fun Kq hKq=> ?_;go_simp;refine(du y0 n₀ sa sc s.sk HG.ls HG.hz).mono ?_;rintro e y1⟨rfl,hb⟩;replace HG:=hid (HG.below hb);replace av:=hid (HJ.o 0 _ _ av.o hb).1;replace a6:=hid (Nat.le_trans a6.o hb.size);clear hb;have hK:=(show y1.cell? C=some (B:Y)/\y1.cell? B=some (s.una:Y)/\y1.cell? ⟨B,1,none⟩=some (s.next:Y)/\y1.cell? ⟨B,3,none⟩=some (.slice sa s.sk.length sc)from⟨HG.cC,HG.c0,HG.c1,HG.c3⟩);go_simp;refine hKq.out _ _ (hK) ?_;clear hKq Kq hZ;refine fun hZ=>aT ?_;clear hK;rw[fv.o];refine aK 9 10 ?_;refine az ?_ _;clear hZ;go_wp2_with fail;have hK:=(show y1.cell? C=some (B:Y)/\y1.cell? B=some (s.una:Y)/\y1.cell? ⟨B,1,none⟩=some (s.next:Y)/\y1.cell? ⟨B,3,none⟩=some (.slice sa s.sk.length sc)from⟨HG.cC,HG.c0,HG.c1,HG.c3⟩);refine bC (fun W:World=>W.cell? C=some (B:Y)/\W.cell? B=some (s.una:Y)/\W.cell? ⟨B,1,none⟩=some (s.next:Y)/\W.cell? ⟨B,3,none⟩=some (.slice sa s.sk.length sc)) (hK) fun hZ=>?_;clear hK;replace HG:=hid (HG.below (Below.refl _ y1).drew);replace av:=hid (HJ.o 0 y1 y1.drew av.o (Below.refl _ _).drew).1;obtain⟨y2,hy2⟩:∃y2,y2=y1.drew:=⟨_,rfl⟩;replace a6:Hid (w.heap.size<=y2.heap.size):=by rw[hy2];exact a6
 rw[<-hy2]at HG av hZ|-;clear hy2;refine aB 0 4 8 15 ?_;refine aB 1 5 9 2 ?_;refine aB 6 10 3 7 ?_;refine aK 11 12 ?_;refine aX 13 fun Kq hKq=> ?_;go_simp;refine(mv y2 n₀ sa sc s.sk (s.una,s.next) HG.ls HG.hz).mono ?_;rintro e y3⟨v,rfl,hO,hb⟩;rw[show bj s.sk (s.una,s.next)=s.gaps from rfl]at hO;obtain⟨ga,gc,rfl,hsp,-,hap⟩:=hO.at d8.o;have hcl:=(HJ.o 0 _ _ av.o hb).2;have HI:=hid (show Gi n₀ w.heap.size C M B s m sa sc ga cl y3 from⟨HG.below hb,hsp,fun ad e=>⟨Nat.le_trans a6.o (hap ad e).1,fun h=>by have:=(hcl _ h).2;have:=(hap ad e).1;omega⟩⟩);replace av:=hid (HJ.o 0 _ _ av.o hb).1;replace a6:=hid (Nat.le_trans a6.o hb.size);clear hO hb hsp hap hcl HG;have hK:=(show y3.cell? C=some (B:Y)/\y3.cell? B=some (s.una:Y)/\y3.cell? ⟨B,1,none⟩=some (s.next:Y)/\y3.cell? ⟨B,3,none⟩=some (.slice sa s.sk.length sc)from⟨HI.g.cC,HI.g.c0,HI.g.c1,HI.g.c3⟩);go_simp;refine hKq.out _ _ (hK) ?_;clear hKq Kq hZ;refine fun hZ=>aT ?_;clear hK;refine aO 14 ?_;refine az ?_ _;clear hZ;go_wp2_with fail;obtain⟨e0,em⟩:=(⟨_,al.csk⟩:∃e,aH e s.sk=true);have ca:=hid em;clear em
 go_loopg [33,4,5] s.gaps.length (fun g kv spv smv wr=>Gr n₀ w.heap.size C M B s m sa sc ga cl J g kv spv smv wr)
 case atStart=>exact⟨0,s.sk,sa,sc,rfl,by omega,rfl,rfl,HI.g.ls,HI.g.cap,⟨e0,ca.o⟩,fun i h _=>rfl,HI.o,av.o,a6.o⟩
 case round =>
  clear HI av a6 ca;obtain⟨k,sp,a,c,rfl,hg,rfl,rfl,hls,hcap,⟨e0,cb⟩,hup,hI,cf,hsz⟩:=hrel;have HI:=hid hI;have bc:=hid hup;have an:=hid cb;have ab:=hid hls;have a9:=hid cf;have a6:=hid hsz;clear hI hup cb hls cf hsz;by_cases hk:k<s.gaps.length
  ·obtain⟨b0,o0,rfl,hb,hcs⟩:=HI.gl.cells (by omega);obtain⟨d0,d1⟩:=hcs k hk;clear hcs;have b6:(k:Int)<(s.gaps.length:Int):=by omega
   obtain⟨x,hx⟩:∃x,x=s.gaps[k]:=⟨_,rfl⟩;rw[<-hx]at d0 d1;have HX:=hid hx;clear hx;obtain⟨x1,x2⟩:=x;dsimp only at d0 d1;have en:=hid (fun i (h:i<s.gaps.length) (b6:k<=i)=>show x1<=s.gaps[i].1 by have:=fx.o k i b6 h;rw[<-HX.o]at this;exact this);go_wp2_with fail;clear d0 d1;have c8:=bU wr (.cells #[x1,x2] 92);obtain⟨XB,hXB⟩:∃XB,XB=wr.heap.size:=⟨_,rfl⟩;have hx0:=(show At XB 0 x1 (wr.alloc (.cells #[x1,x2] 92)) by rw[hXB];exact At.new _ rfl rfl);have hx1:=(show At XB 1 x2 (wr.alloc (.cells #[x1,x2] 92)) by rw[hXB];exact At.new _ rfl rfl);have HQ:=hid (show Gq n₀ w.heap.size C M B s m sa sc (some ⟨b0,o0,none⟩) cl J k XB x1 x2 sp.length (.slice a sp.length c) (aC sp) (wr.alloc (.cells #[x1,x2] 92))from⟨sp,a,c,rfl,rfl,rfl,ab.below (c8.mono HI.g.hz),hcap,⟨e0,an.o⟩,bc.o,HI.below c8 (fun b h=>((HJ.o k _ _ a9.o c8).2 b h).1),(HJ.o k _ _ a9.o c8).1,Nat.le_trans a6.o c8.size,hx0,hx1,by rw[hXB];exact a6.o⟩);rw[<-hXB];clear c8 hXB hx0 hx1 ab an bc HI a9 a6;generalize wr.alloc (.cells #[x1,x2] 92)=w1 at HQ|-
   go_loopg [4,5] sp.length (fun g spv smv w2=>Gq n₀ w.heap.size C M B s m sa sc (some ⟨b0,o0,none⟩) cl J k XB x1 x2 g spv smv w2)
   case atStart=>exact HQ.o
   case round =>
    clear HQ hcap;obtain⟨sp,a,c,rfl,rfl,rfl,hls,hcap,⟨e0,cb⟩,hup,hI,cf,hsz,hx0,hx1,er⟩:=hrel;have HI:=hid hI;have bc:=hid hup;have an:=hid cb;have ab:=hid hls;have a9:=hid cf;have a6:=hid hsz;have a4:=hid hx0;have a5:=hid hx1;have es:=hid er;have hcap:=hcap;clear hI hup cb hls cf hsz hx0 hx1 er
    rcases sp with _ | ⟨y,t⟩
    ·obtain⟨v0,q0⟩:=a4.o;obtain⟨v1,q1⟩:=a5.o;have hd0:decide ((0:Int)<0)=false:=by decide
     go_wp2_with fail
     go_quiet (fail)
     clear v0 q0 v1 q1;have aF:=jV wr nq;replace HI:=hid (HI.below aF (fun b h=>((HJ.o k _ _ a9.o aF).2 b h).1));replace a9:=hid (HJ.o k _ _ a9.o aF).1;replace ab:=hid (ab.below (aF.mono (by have:=HI.g.hz;simpa using this)));replace a4:=hid (a4.below aF a4.lt);replace a5:=hid (a5.below aF a5.lt);replace a6:=hid (Nat.le_trans a6.o aF.size);clear aF;generalize wr.drewN nq=w3 at HI a9 ab a4 a5 a6|-;obtain⟨v0,q0⟩:=a4.o;obtain⟨v1,q1⟩:=a5.o;have be:=HI.g.below (bU w3 (.cells #[x1,x2] 92));have cM:=be.cM;have cC:=be.cC;have c2:=be.c2;clear be;obtain⟨v2,q2⟩:=a4.alloc (.cells #[x1,x2] 92);obtain⟨v3,q3⟩:=a5.alloc (.cells #[x1,x2] 92);have ax:=hid (show jb x1 s.sk=[] by have h:=bc.o k hk (Nat.le_refl _);rw[<-HX.o]at h;exact h.symm.trans (by rfl));have gF:wrap64 ((aC []).tdiv 3)=aC []/3:=by have h:=aL an.o;rw[Int.tdiv_eq_ediv_of_nonneg h.1];unfold wrap64;omega
     by_cases hc1:aC []/3<m
     focus
      have hc2:(0:Int)<3:=by decide
      go_upto_region 9 with fail
      have cg:=(show(fun W:World=>W.cell? XB=some (x1:Y)/\W.cell? ⟨XB,1,none⟩=some (x2:Y)/\W.cell? C=some (B:Y)/\W.cell? ⟨B,2,none⟩=some (s.mark:Y)) (w3.alloc (.cells #[x1,x2] 92))from⟨v2,v3,cC,c2⟩);have cL:=HI.g.below (bU w3 (.cells #[x1,(max x1 (min x2 s.mark):Int)] 92));have ba:=(show(fun W:World=>W.cell? XB=some (x1:Y)/\W.cell? ⟨XB,1,none⟩=some (x2:Y)/\W.cell? C=some (B:Y)/\W.cell? ⟨B,2,none⟩=some (s.mark:Y)) (w3.alloc (.cells #[x1,(max x1 (min x2 s.mark):Int)] 92))from⟨(a4.alloc (.cells #[x1,(max x1 (min x2 s.mark):Int)] 92)).1,(a5.alloc (.cells #[x1,(max x1 (min x2 s.mark):Int)] 92)).1,cL.cC,cL.c2⟩);clear cL;refine bC (fun W:World=>W.cell? XB=some (x1:Y)/\W.cell? ⟨XB,1,none⟩=some (x2:Y)/\W.cell? C=some (B:Y)/\W.cell? ⟨B,2,none⟩=some (s.mark:Y)) (cg) fun hZ=>?_;refine aB 0 1 2 3 ?_;refine aB 4 5 6 7 ?_;refine aK 8 9 ?_;refine aO 10 ?_;refine aX 11 fun Kq hKq=> ?_;go_simp;refine hKq.out _ _ (ba) ?_;clear hKq Kq hZ;refine fun hZ=>aT ?_;refine az ?_ _;clear hZ cg ba cC cM c2 v2 v3 q2 q3
      go_upto_region 10 with fail
      have a7:=(bU w3 (.cells #[x1,(max x1 (min x2 s.mark):Int)] 92)).drew;have bl:=hid (show s.lostOf m (x1,x2)=(x1,(max x1 (min x2 s.mark))) by unfold Sc.lostOf;rw[if_pos];dsimp only;rw[ax.o];exact⟨hc1,by first | exact hc2 | (simp;omega) | simp⟩);have ak:=HJ.o k _ _ a9.o a7;have am:=hid (HI.below a7 (fun b h=>(ak.2 b h).1));have hy0:=HY.o k hk _ ak.1;rw[<-HX.o,bl.o]at hy0;dsimp only at hy0;have d0:=(show At w3.heap.size 0 x1 ((w3.alloc (.cells #[x1,(max x1 (min x2 s.mark):Int)] 92)).drew)from(At.new _ rfl rfl:At w3.heap.size 0 x1 (w3.alloc (.cells #[x1,(max x1 (min x2 s.mark):Int)] 92)))).1;have d1:=(show At w3.heap.size 1 (max x1 (min x2 s.mark):Int) ((w3.alloc (.cells #[x1,(max x1 (min x2 s.mark):Int)] 92)).drew)from(At.new _ rfl rfl:At w3.heap.size 1 (max x1 (min x2 s.mark):Int) (w3.alloc (.cells #[x1,(max x1 (min x2 s.mark):Int)] 92)))).1;have v4:=a4.below a7 a4.lt;have v5:=a5.below a7 a5.lt;obtain⟨v4,-⟩:=v4;obtain⟨v5,-⟩:=v5;have aa:=Nat.le_trans a6.o a7.size;have bI:=hid (ab.below (a7.mono HI.g.hz));generalize ((w3.alloc (.cells #[x1,(max x1 (min x2 s.mark):Int)] 92)).drew)=w5 at hy0 d0 d1 am v4 v5 aa bI|-
     rotate_left 1
     focus
      go_upto_region 10 with fail
      have a7:=bU w3 (.cells #[x1,x2] 92);have bl:=hid (show s.lostOf m (x1,x2)=(x1,x2) by unfold Sc.lostOf;rw[if_neg];dsimp only;rw[ax.o];rintro⟨h1,h2⟩;first | exact hc1 h1 | exact hc2 (by simpa using h2) | (simp at h2;omega));have ak:=HJ.o k _ _ a9.o a7;have am:=hid (HI.below a7 (fun b h=>(ak.2 b h).1));have hy0:=HY.o k hk _ ak.1;rw[<-HX.o,bl.o]at hy0;dsimp only at hy0;have d0:=(show At w3.heap.size 0 x1 (w3.alloc (.cells #[x1,x2] 92))from At.new _ rfl rfl).1;have d1:=(show At w3.heap.size 1 x2 (w3.alloc (.cells #[x1,x2] 92))from At.new _ rfl rfl).1;have v4:=a4.below a7 a4.lt;have v5:=a5.below a7 a5.lt;obtain⟨v4,-⟩:=v4;obtain⟨v5,-⟩:=v5;have aa:=Nat.le_trans a6.o a7.size;have bI:=hid (ab.below (a7.mono HI.g.hz));generalize (w3.alloc (.cells #[x1,x2] 92))=w5 at hy0 d0 d1 am v4 v5 aa bI|-
     all_goals
      obtain⟨fn,tmps,assign,body,hy,hR⟩:=hy0;clear a7 ak;refine(wpIn_wide (n:=n)).1 ?_
      gi_wp2
      refine hR.mono ?_;rintro e w6 (⟨rfl,hJ6,hb6,hcl6⟩ | ⟨rfl,hJx⟩)
      ·have bv:=am.next hb6 aa hcl6 (fun ad e=>by obtain⟨b8,o8,e8,ch,-⟩:=am.gl.cells (by omega);rw[e8]at e;cases e;exact ch) (dn.o _ _ hJ6);have cn:=hid (bI.below hb6);have bb:=hid (Nat.le_trans aa hb6.size);have cs:=hid bv;have dT:=hid hJ6;clear hy hR d0 d1 v4 v5 hb6 hcl6 bv hJ6
       gi_wp2
       go_wp2_with fail
       go_roundg (s.gaps.length-k-1)
       case measure=>omega
       case rel=>exact⟨k+1,[],a,c,by have hgl:=d8.o;have e:wrap64 ((k:Int)+1)=((k+1:Nat):Int):=(by unfold wrap64;omega);rw[e],by omega,by first | rfl | simp,rfl,cn.o,by first | exact hcap | simpa using hcap,⟨_,an.o⟩,fun i h b6=>bc.o i h (by omega),cs.o,dT.o,bb.o⟩
      clear hy hR d0 d1 v4 v5
      gi_wp2
      go_wp2_with fail;refine bodyPost_ret (results_none rfl _ _ _) rfl ?_;exact⟨⟨_,rfl⟩,.inr ⟨k,hk,hJx⟩⟩
    obtain⟨b,off,rfl,hb,hcs⟩:=ab.cells (by simp);obtain⟨d0,d1⟩:=hcs 0 (by simp);clear hcs;obtain⟨y1,y2⟩:=y;simp only[List.getElem_cons_zero,Nat.zero_mul,Nat.add_zero]at d0 d1;obtain⟨v0,q0⟩:=a4.o;obtain⟨v1,q1⟩:=a5.o;by_cases hle:y2<=x1
    ·have eu:=hid (show wrap64 (aC ((y1,y2)::t)-wrap64 (y2-y1))=aC t by have h1:=aL an.o;have h2:=aA.1 an.o;have h3:=aL h2.2;have h4:=h2.1;dsimp only at h4;rw[show aC ((y1,y2)::t)=(y2-y1)+aC t from rfl]at h1|-;unfold wrap64;omega);go_wp2_with fail
     go_quiet (fail)
     clear v0 q0 v1 q1;have D0:=hid d0;have D1:=hid d1;clear d0 d1;have aF:=jV wr nq;replace HI:=hid (HI.below aF (fun b h=>((HJ.o k _ _ a9.o aF).2 b h).1));replace a9:=hid (HJ.o k _ _ a9.o aF).1;replace ab:=hid (ab.below (aF.mono (by have:=HI.g.hz;simpa using this)));replace a4:=hid (a4.below aF a4.lt);replace a5:=hid (a5.below aF a5.lt);replace a6:=hid (Nat.le_trans a6.o aF.size);clear aF;generalize wr.drewN nq=w3 at HI a9 ab a4 a5 a6|-;obtain⟨v0,q0⟩:=a4.o;obtain⟨v1,q1⟩:=a5.o;obtain⟨b9,o9,h9,hb,hcs⟩:=ab.cells (by simp)
     cases h9
     obtain⟨d0,d1⟩:=hcs 0 (by simp);clear hcs;simp only[List.getElem_cons_zero,Nat.zero_mul,Nat.add_zero]at d0 d1;go_wp2_with fail
     go_quiet (fail)
     go_wp2_with fail
     ·clear v0 q0 v1 q1 d0 d1;have aF:=jV w3 nq;replace HI:=hid (HI.below aF (fun b h=>((HJ.o k _ _ a9.o aF).2 b h).1));replace a9:=hid (HJ.o k _ _ a9.o aF).1;replace ab:=hid (ab.below (aF.mono (by have:=HI.g.hz;simpa using this)));replace a4:=hid (a4.below aF a4.lt);replace a5:=hid (a5.below aF a5.lt);replace a6:=hid (Nat.le_trans a6.o aF.size);clear aF;generalize w3.drewN nq=w4 at HI a9 ab a4 a5 a6|-;rw[eu.o]
      go_roundg t.length
      case measure=>simp
      case rel=>exact⟨t,some ⟨b,off,none⟩,0,rfl,rfl,rfl,⟨by have:=(lY ab.o).small;exact this,fun hl=>by have:=hcap;rw[List.length_cons]at this;omega⟩,by have:=hcap;rw[List.length_cons]at this;omega,⟨y2,(aA.1 an.o).2⟩,fun i h b6=>by rw[<-bc.o i h b6,cG,if_pos (Int.le_trans hle (en.o i h b6))],HI.o,a9.o,a6.o,a4.o,a5.o,es.o⟩
     clear v0 q0 v1 q1 d0 d1;have aF:=jV w3 nq;replace HI:=hid (HI.below aF (fun b h=>((HJ.o k _ _ a9.o aF).2 b h).1));replace a9:=hid (HJ.o k _ _ a9.o aF).1;replace ab:=hid (ab.below (aF.mono (by have:=HI.g.hz;simpa using this)));replace a4:=hid (a4.below aF a4.lt);replace a5:=hid (a5.below aF a5.lt);replace a6:=hid (Nat.le_trans a6.o aF.size);clear aF;generalize w3.drewN nq=w4 at HI a9 ab a4 a5 a6|-;rw[eu.o]
     go_roundg t.length
     case measure=>simp
     case rel=>exact⟨t,some ⟨b,off+2,none⟩,c-1,rfl,rfl,rfl,lY ab.o,by have:=hcap;rw[List.length_cons]at this;omega,⟨y2,(aA.1 an.o).2⟩,fun i h b6=>by rw[<-bc.o i h b6,cG,if_pos (Int.le_trans hle (en.o i h b6))],HI.o,a9.o,a6.o,a4.o,a5.o,es.o⟩
    have hd:decide (y2<=x1)=false:=by rw[decide_eq_false_iff_not];exact hle
    go_wp2_with fail
    go_quiet (fail)
    clear v0 q0 v1 q1 d0 d1;have aF:=jV wr nq;replace HI:=hid (HI.below aF (fun b h=>((HJ.o k _ _ a9.o aF).2 b h).1));replace a9:=hid (HJ.o k _ _ a9.o aF).1;replace ab:=hid (ab.below (aF.mono (by have:=HI.g.hz;simpa using this)));replace a4:=hid (a4.below aF a4.lt);replace a5:=hid (a5.below aF a5.lt);replace a6:=hid (Nat.le_trans a6.o aF.size);clear aF;generalize wr.drewN nq=w3 at HI a9 ab a4 a5 a6|-;obtain⟨v0,q0⟩:=a4.o;obtain⟨v1,q1⟩:=a5.o;have be:=HI.g.below (bU w3 (.cells #[x1,x2] 92));have cM:=be.cM;have cC:=be.cC;have c2:=be.c2;clear be;obtain⟨v2,q2⟩:=a4.alloc (.cells #[x1,x2] 92);obtain⟨v3,q3⟩:=a5.alloc (.cells #[x1,x2] 92);have ax:=hid (show jb x1 s.sk=((y1,y2)::t) by have h:=bc.o k hk (Nat.le_refl _);rw[<-HX.o]at h;exact h.symm.trans (by rw[cG,if_neg (by omega)]));have gF:wrap64 ((aC ((y1,y2)::t)).tdiv 3)=aC ((y1,y2)::t)/3:=by have h:=aL an.o;rw[Int.tdiv_eq_ediv_of_nonneg h.1];unfold wrap64;omega
    by_cases hc1:aC ((y1,y2)::t)/3<m
    ·by_cases hc2:((t.length:Int)+1)<3
     focus
      go_upto_region 9 with fail
      have cg:=(show(fun W:World=>W.cell? XB=some (x1:Y)/\W.cell? ⟨XB,1,none⟩=some (x2:Y)/\W.cell? C=some (B:Y)/\W.cell? ⟨B,2,none⟩=some (s.mark:Y)) (w3.alloc (.cells #[x1,x2] 92))from⟨v2,v3,cC,c2⟩);have cL:=HI.g.below (bU w3 (.cells #[x1,(max x1 (min x2 s.mark):Int)] 92));have ba:=(show(fun W:World=>W.cell? XB=some (x1:Y)/\W.cell? ⟨XB,1,none⟩=some (x2:Y)/\W.cell? C=some (B:Y)/\W.cell? ⟨B,2,none⟩=some (s.mark:Y)) (w3.alloc (.cells #[x1,(max x1 (min x2 s.mark):Int)] 92))from⟨(a4.alloc (.cells #[x1,(max x1 (min x2 s.mark):Int)] 92)).1,(a5.alloc (.cells #[x1,(max x1 (min x2 s.mark):Int)] 92)).1,cL.cC,cL.c2⟩);clear cL;refine bC (fun W:World=>W.cell? XB=some (x1:Y)/\W.cell? ⟨XB,1,none⟩=some (x2:Y)/\W.cell? C=some (B:Y)/\W.cell? ⟨B,2,none⟩=some (s.mark:Y)) (cg) fun hZ=>?_;refine aB 0 1 2 3 ?_;refine aB 4 5 6 7 ?_;refine aK 8 9 ?_;refine aO 10 ?_;refine aX 11 fun Kq hKq=> ?_;go_simp;refine hKq.out _ _ (ba) ?_;clear hKq Kq hZ;refine fun hZ=>aT ?_;refine az ?_ _;clear hZ cg ba cC cM c2 v2 v3 q2 q3
      go_upto_region 10 with fail
      have a7:=(bU w3 (.cells #[x1,(max x1 (min x2 s.mark):Int)] 92)).drew;have bl:=hid (show s.lostOf m (x1,x2)=(x1,(max x1 (min x2 s.mark))) by unfold Sc.lostOf;rw[if_pos];dsimp only;rw[ax.o];exact⟨hc1,by first | exact hc2 | (simp;omega) | simp⟩);have ak:=HJ.o k _ _ a9.o a7;have am:=hid (HI.below a7 (fun b h=>(ak.2 b h).1));have hy0:=HY.o k hk _ ak.1;rw[<-HX.o,bl.o]at hy0;dsimp only at hy0;have d0:=(show At w3.heap.size 0 x1 ((w3.alloc (.cells #[x1,(max x1 (min x2 s.mark):Int)] 92)).drew)from(At.new _ rfl rfl:At w3.heap.size 0 x1 (w3.alloc (.cells #[x1,(max x1 (min x2 s.mark):Int)] 92)))).1;have d1:=(show At w3.heap.size 1 (max x1 (min x2 s.mark):Int) ((w3.alloc (.cells #[x1,(max x1 (min x2 s.mark):Int)] 92)).drew)from(At.new _ rfl rfl:At w3.heap.size 1 (max x1 (min x2 s.mark):Int) (w3.alloc (.cells #[x1,(max x1 (min x2 s.mark):Int)] 92)))).1;have v4:=a4.below a7 a4.lt;have v5:=a5.below a7 a5.lt;obtain⟨v4,-⟩:=v4;obtain⟨v5,-⟩:=v5;have aa:=Nat.le_trans a6.o a7.size;have bI:=hid (ab.below (a7.mono HI.g.hz));generalize ((w3.alloc (.cells #[x1,(max x1 (min x2 s.mark):Int)] 92)).drew)=w5 at hy0 d0 d1 am v4 v5 aa bI|-
     rotate_left 1
     focus
      go_upto_region 10 with fail
      have a7:=bU w3 (.cells #[x1,x2] 92);have bl:=hid (show s.lostOf m (x1,x2)=(x1,x2) by unfold Sc.lostOf;rw[if_neg];dsimp only;rw[ax.o];rintro⟨h1,h2⟩;first | exact hc1 h1 | exact hc2 (by simpa using h2) | (simp at h2;omega));have ak:=HJ.o k _ _ a9.o a7;have am:=hid (HI.below a7 (fun b h=>(ak.2 b h).1));have hy0:=HY.o k hk _ ak.1;rw[<-HX.o,bl.o]at hy0;dsimp only at hy0;have d0:=(show At w3.heap.size 0 x1 (w3.alloc (.cells #[x1,x2] 92))from At.new _ rfl rfl).1;have d1:=(show At w3.heap.size 1 x2 (w3.alloc (.cells #[x1,x2] 92))from At.new _ rfl rfl).1;have v4:=a4.below a7 a4.lt;have v5:=a5.below a7 a5.lt;obtain⟨v4,-⟩:=v4;obtain⟨v5,-⟩:=v5;have aa:=Nat.le_trans a6.o a7.size;have bI:=hid (ab.below (a7.mono HI.g.hz));generalize (w3.alloc (.cells #[x1,x2] 92))=w5 at hy0 d0 d1 am v4 v5 aa bI|-
     all_goals
      obtain⟨fn,tmps,assign,body,hy,hR⟩:=hy0;clear a7 ak;refine(wpIn_wide (n:=n)).1 ?_
      gi_wp2
      refine hR.mono ?_;rintro e w6 (⟨rfl,hJ6,hb6,hcl6⟩ | ⟨rfl,hJx⟩)
      ·have bv:=am.next hb6 aa hcl6 (fun ad e=>by obtain⟨b8,o8,e8,ch,-⟩:=am.gl.cells (by omega);rw[e8]at e;cases e;exact ch) (dn.o _ _ hJ6);have cn:=hid (bI.below hb6);have bb:=hid (Nat.le_trans aa hb6.size);have cs:=hid bv;have dT:=hid hJ6;clear hy hR d0 d1 v4 v5 hb6 hcl6 bv hJ6
       gi_wp2
       go_wp2_with fail
       go_roundg (s.gaps.length-k-1)
       case measure=>omega
       case rel=>exact⟨k+1,((y1,y2)::t),(some ⟨b,off,none⟩),c,by have hgl:=d8.o;have e:wrap64 ((k:Int)+1)=((k+1:Nat):Int):=(by unfold wrap64;omega);rw[e],by omega,by first | rfl | simp,rfl,cn.o,by first | exact hcap | simpa using hcap,⟨_,an.o⟩,fun i h b6=>bc.o i h (by omega),cs.o,dT.o,bb.o⟩
      clear hy hR d0 d1 v4 v5
      gi_wp2
      go_wp2_with fail;refine bodyPost_ret (results_none rfl _ _ _) rfl ?_;exact⟨⟨_,rfl⟩,.inr ⟨k,hk,hJx⟩⟩
    go_upto_region 10 with fail
    have a7:=bU w3 (.cells #[x1,x2] 92);have bl:=hid (show s.lostOf m (x1,x2)=(x1,x2) by unfold Sc.lostOf;rw[if_neg];dsimp only;rw[ax.o];rintro⟨h1,h2⟩;first | exact hc1 h1 | exact hc2 (by simpa using h2) | (simp at h2;omega));have ak:=HJ.o k _ _ a9.o a7;have am:=hid (HI.below a7 (fun b h=>(ak.2 b h).1));have hy0:=HY.o k hk _ ak.1;rw[<-HX.o,bl.o]at hy0;dsimp only at hy0;have d0:=(show At w3.heap.size 0 x1 (w3.alloc (.cells #[x1,x2] 92))from At.new _ rfl rfl).1;have d1:=(show At w3.heap.size 1 x2 (w3.alloc (.cells #[x1,x2] 92))from At.new _ rfl rfl).1;have v4:=a4.below a7 a4.lt;have v5:=a5.below a7 a5.lt;obtain⟨v4,-⟩:=v4;obtain⟨v5,-⟩:=v5;have aa:=Nat.le_trans a6.o a7.size;have bI:=hid (ab.below (a7.mono HI.g.hz));generalize (w3.alloc (.cells #[x1,x2] 92))=w5 at hy0 d0 d1 am v4 v5 aa bI|-;obtain⟨fn,tmps,assign,body,hy,hR⟩:=hy0;clear a7 ak;refine(wpIn_wide (n:=n)).1 ?_
    gi_wp2
    refine hR.mono ?_;rintro e w6 (⟨rfl,hJ6,hb6,hcl6⟩ | ⟨rfl,hJx⟩)
    ·have bv:=am.next hb6 aa hcl6 (fun ad e=>by obtain⟨b8,o8,e8,ch,-⟩:=am.gl.cells (by omega);rw[e8]at e;cases e;exact ch) (dn.o _ _ hJ6);have cn:=hid (bI.below hb6);have bb:=hid (Nat.le_trans aa hb6.size);have cs:=hid bv;have dT:=hid hJ6;clear hy hR d0 d1 v4 v5 hb6 hcl6 bv hJ6
     gi_wp2
     go_wp2_with fail
     go_roundg (s.gaps.length-k-1)
     case measure=>omega
     case rel=>exact⟨k+1,((y1,y2)::t),(some ⟨b,off,none⟩),c,by have hgl:=d8.o;have e:wrap64 ((k:Int)+1)=((k+1:Nat):Int):=(by unfold wrap64;omega);rw[e],by omega,by first | rfl | simp,rfl,cn.o,by first | exact hcap | simpa using hcap,⟨_,an.o⟩,fun i h b6=>bc.o i h (by omega),cs.o,dT.o,bb.o⟩
    clear hy hR d0 d1 v4 v5
    gi_wp2
    go_wp2_with fail;refine bodyPost_ret (results_none rfl _ _ _) rfl ?_;exact⟨⟨_,rfl⟩,.inr ⟨k,hk,hJx⟩⟩
  obtain rfl:k=s.gaps.length:=by omega
  go_wp2_with fail
  go_end0
  exact⟨⟨_,rfl⟩,.inl a9.o⟩
end
section
open Go.RowKit Go.Shelf
def wV (A:Option Nat)(W:World)(b:Nat):Prop:=∃x v,A=some x/\W.cell? x=some v/\v.ownBlock=some b
def lA (A:Option Nat)(N:Nat)(W W':World):Prop:=∀b,b<W.heap.size->N<=b->¬wV A W b->W'.heap[b]? =W.heap[b]? /\¬wV A W' b
theorem lA.trans {A:Option Nat}{N:Nat}{W W1 W2:World}(h:lA A N W W1)(k:lA A N W1 W2)(hs:W.heap.size<=W1.heap.size):lA A N W W2:=fun b h1 h2 h3=>by
 obtain⟨a1,a2⟩:=h b h1 h2 h3;obtain⟨b1,b2⟩:=k b (by omega) h2 a2;exact⟨b1.trans a1,b2⟩
theorem lA.refl (A:Option Nat)(N:Nat)(W:World):lA A N W W:=fun _ _ _ h=>⟨rfl,h⟩
theorem ic {A:Option Nat}{W W':World}{b:Nat}(h:∀x,A=some x->W'.cell? x=W.cell? x):wV A W' b->wV A W b:=by
 rintro⟨x,v,e,hc,ho⟩;exact⟨x,v,e,by rw[<-h x e];exact hc,ho⟩
theorem lA.alloc {A:Option Nat}{N:Nat}{W:World}(hA:∀x,A=some x->x<W.heap.size)(o:Obj):lA A N W (W.alloc o):=fun b h1 _ h3 =>
 ⟨Below.heap_alloc W o b h1,fun h=>h3 (ic (fun x e=>World.cell?_of_block (a:=⟨x,0,none⟩) (Below.heap_alloc W o x (hA x e))) h)⟩
theorem lA.below {A:Option Nat}{N:Nat}{W W':World}(hA:∀x,A=some x->x<W.heap.size)(hb:Below W.heap.size W W'):lA A N W W':=fun b h1 _ h3 =>
 ⟨hb.block b h1,fun h=>h3 (ic (fun x e=>World.cell?_of_block (a:=⟨x,0,none⟩) (hb.block x (hA x e))) h)⟩
theorem lA.putObj {A:Option Nat}{N l:Nat}{W:World}(hA:∀x,A=some x->x≠l)(hl:l<N)(o:Obj):lA A N W (W.putObj l o):=fun b h1 h2 h3 =>
 ⟨World.putObj_heap_other (by omega),fun h=>h3 (ic (fun x e=>World.cell?_of_block (a:=⟨x,0,none⟩) (World.putObj_heap_other (hA x e))) h)⟩
def tU (A:Option Nat)(B n₀:Nat)(I:Nat->World->Prop)(k:Nat)(W:World):Exit->Act->World->Prop
 | .normal,_,W'=>KeepsFrom B W W'/\Below n₀ W W'/\lA A (B+2) W W'/\I (k+1) W'
 | _,_,_=>False
set_option maxHeartbeats 1000000 in
theorem po {g:Operand} {ps:Array Tmp} {assign body:Code} {Q:Exit->Act->World->Prop} {a:Act} {w:World} {n n₀ C M B:Nat} (hn:2<=n)
  {s:Sc} (ok:s.Ok) {m:Int} {sa:Option Addr} {sc:Nat} (hg:a.eval g= .func (.func 212) #[] #[C,M])
  {p q:Tmp} (hps:ps= #[p,q]) (hG:Gv n₀ C M B s m sa sc w) (A:Option Nat) (hA:∀x,A=some x->x<w.heap.size)
  (I:Nat->World->Prop) (hI:OwnFrom w.heap.size I) (hIB:∀k W W',I k W->Below W.heap.size W W'->I k W') (hIA:∀k W b,I k W->wV A W b->b<W.heap.size) (hIC:∀k W,I k W->W.cell? C=some (B:Y)/\W.cell? M=some (m:Y)) (h0:I 0 w)
  (hround:∀l k (h:k<s.gaps.length) W,w.heap.size<=l->w.heap.size+2<=W.heap.size->I k W ->
   assign.wpIn (Fence.wide.inRound l) (n-1-1) Tryz.prog (Exit.then (fun a' W'=>KeepsFrom w.heap.size W W'/\Below n₀ W W'/\lA A (w.heap.size+2) W W'/\∃Ax:Unit->World->Prop,OwnFrom w.heap.size Ax/\Ax () W'/\∀W2,Ax () W2->body.wpIn (Fence.wide.inRound l) (n-1-1) Tryz.prog (tU A w.heap.size n₀ I k W2) a' W2) (fun _ _ _=>False))
    { tmps:=(a.tmps.setIfInBounds p (.agg #[s.gaps[k].1,s.gaps[k].2])).setIfInBounds q (.agg #[(s.lostOf m s.gaps[k]).1,(s.lostOf m s.gaps[k]).2]),defers:=[] } W)
  (hdone:∀(D:Nat) (W:World),w.heap.size<=D->I s.gaps.length W->W.heap[D]? =some (.deferred (some []))->Q .normal { a with defers:={ target:=.collected D,args:= #[] }::a.defers } W) :
  (Code.rangeFunc g ps assign body).wpIn Fence.wide n Tryz.prog Q a w:=by
 subst hps;have ds:n₀<=w.heap.size:=hG.hz;refine wpIn_rangeFunc (fun fn hfn=> ?_);obtain⟨rec,hrec⟩:∃rec:LoopState->Option Code->Loop,rec=fun st pe=>{ state:=st,pending:=pe,fn:=fn,tmps:=a.tmps,params:= #[p,q],assign:=assign,body:=body,defers:=w.heap.size }:=⟨_,rfl⟩;obtain⟨W1,hW1⟩:∃W1,W1=(w.alloc (.deferred (some []))).alloc (.loop (rec .ready none)):=⟨_,rfl⟩;have hz:W1.heap.size=w.heap.size+2:=by rw[hW1];simp
 have gN:W1.heap[w.heap.size+1]? =some (.loop (rec .ready none)):=by
  have:=World.alloc_heap_new (w.alloc (.deferred (some []))) (.loop (rec .ready none));rw[World.size_alloc]at this;rw[hW1];exact this
 have hd1:W1.heap[w.heap.size]? =some (.deferred (some [])):=by
  rw[hW1];exact(Below.heap_alloc _ _ _ (by simp)).trans (World.alloc_heap_new w _)
 have hb1:Below n₀ w W1:=by rw[hW1];exact((Below.refl n₀ w).alloc ds _).alloc (by simp;omega) _
 have eB:Below w.heap.size w W1:=by rw[hW1];exact((Below.refl w.heap.size w).alloc (Nat.le_refl _) _).alloc (by simp) _
 have gT:I 0 W1:=by rw[hW1];exact hI.alloc _ (hI.alloc _ h0)
 refine⟨w.heap.size+1,[{ target:=.collected w.heap.size,args:= #[] }],W1,{ target:=.fn (.func 212) #[C,M],args:= #[.func (.yield (w.heap.size+1)) #[] #[]] },W1,212,#[.func (.yield (w.heap.size+1)) #[] #[],C,M],W1,?_,?_,fun _ _=>trivial,?_,fun _=>by omega,?_⟩
 ·rw[hW1,hrec];exact run_enterLoop_outer _ _ _ _ _
 ·simp only[resolve,hg]
  simp[go_sem]
 ·simp[invoke,go_sem]
 have key:=qy (n-1) (by omega) (w.heap.size+1) n₀ C M B s ok m sa sc W1 (wV A)
  (fun k W=>I k W/\W.heap[w.heap.size+1]? =some (.loop (rec .ready none))/\W.heap[w.heap.size]? =some (.deferred (some [])))
  (fun _ _=>False) ?_ ?_ (fun k W h=>hIC k W h.1) (hG.below eB) ⟨gT,gN,hd1⟩
 ·refine key.mono ?_;rintro e W2⟨⟨v,rfl⟩,(⟨hi,hl,hd⟩ | ⟨k,hk,hi⟩)⟩
  ·have hrun:=run_endLoop (P:=Tryz.prog) hl (by rw[hrec];simp);have gX:(rec .ready none).pending=none:=by rw[hrec]
   rw[gX]at hrun;exact⟨none,_,hrun,hdone w.heap.size _ (Nat.le_refl _) (hI.putObj _ hi (by omega) hl rfl) ((World.putObj_heap_other (by omega)).trans hd)⟩
  exact hi.elim
 ·rintro k W W' ⟨hi,hl,hd⟩ hb;refine⟨⟨hIB k W W' hi hb,(hb.block _ (Array.getElem?_eq_some_iff.1 hl).1).trans hl,(hb.block _ (Array.getElem?_eq_some_iff.1 hd).1).trans hd⟩,fun b hc=> ?_⟩;have hc':wV A W b:=ic (fun x e=>World.cell?_of_block (a:=⟨x,0,none⟩) (hb.block x (by have:=hA x e;have:=(Array.getElem?_eq_some_iff.1 hl).1;omega))) hc;exact⟨hc',hIA k W b hi hc'⟩
 rintro k hk W⟨hi,hl,hd⟩;have eC:w.heap.size+2<=W.heap.size:=by have:=(Array.getElem?_eq_some_iff.1 hl).1;omega
 subst hrec;have g0:∀x y:Value,(#[p,q].zip #[x,y]).foldl (fun t (z:Tmp×Value)=>t.setIfInBounds z.1 z.2) a.tmps=(a.tmps.setIfInBounds p x).setIfInBounds q y:=fun x y=>by simp
 refine fO (r:={ state:=.ready,pending:=none,fn:=fn,tmps:=a.tmps,params:= #[p,q],assign:=assign,body:=body,defers:=w.heap.size }) (B:=w.heap.size) rfl rfl rfl hl (by omega) (wpIn_mono (a:={ tmps:=_,defers:=[] }) (by dsimp only;rw[g0];exact hround (w.heap.size+1) k hk W (by omega) eC hi) ?_);intro e a' W' he
 cases e with
 | normal =>
  obtain⟨hk1,hb,hf,Ax,g1,g2,g3⟩:=he;have hl':=hk1.same _ _ (by omega) hl rfl;have hd':=hk1.same _ _ (Nat.le_refl _) hd rfl;have hlt:=(Array.getElem?_eq_some_iff.1 hl').1;refine⟨hk1,wpIn_mono (g3 _ (g1.putObj (s:=()) _ g2 (by omega) hl' rfl)) ?_⟩;intro e3 a3 W3 h3;have fin:∀(W3:World),KeepsFrom w.heap.size (W'.putObj (w.heap.size+1) (.loop { state:=.busy,pending:=none,fn:=fn,tmps:=a.tmps,params:= #[p,q],assign:=assign,body:=body,defers:=w.heap.size })) W3->W3.heap[w.heap.size+1]? =some (.loop { state:=.busy,pending:=none,fn:=fn,tmps:=a.tmps,params:= #[p,q],assign:=assign,body:=body,defers:=w.heap.size })/\W3.heap[w.heap.size]? =some (.deferred (some [])):=fun W3 hk3=>And.intro (hk3.same _ _ (by omega) (World.putObj_heap_same hlt) rfl) (hk3.same _ _ (Nat.le_refl _) ((World.putObj_heap_other (by omega)).trans hd') rfl);have ev:∀x,A=some x->x≠w.heap.size+1:=fun x e=>by have:=hA x e;omega
  cases e3 with
  | normal =>
   obtain⟨hk3,hb3,hf3,g5⟩:=h3;obtain⟨eL,hd3⟩:=fin W3 hk3;have eS:=(Array.getElem?_eq_some_iff.1 eL).1;refine⟨hk3,.inl ⟨rfl,⟨hI.putObj _ g5 (by omega) eL rfl,World.putObj_heap_same eS,(World.putObj_heap_other (by omega)).trans hd3⟩,((hb.trans (belowK_b (w:=w) ds _ _ _ _ (by omega) hl' rfl rfl)).trans hb3).trans (belowK_b (w:=w) ds _ _ _ _ (by omega) eL rfl rfl),?_⟩⟩;rw[hz];refine(((hf.trans (lA.putObj ev (by omega) _) hb.size).trans hf3 ?_).trans (lA.putObj ev (by omega) _) ?_)
   ·rw[World.putObj_size];exact hb.size
   refine Nat.le_trans (Nat.le_trans hb.size ?_) hb3.size;rw[World.putObj_size];exact Nat.le_refl _
  | ret=>exact h3.elim
  | exit i=>exact h3.elim
  | goto t=>exact h3.elim
  | panic c=>exact h3.elim
  | outgrown=>exact h3.elim
 | ret=>exact he.elim
 | exit i=>exact he.elim
 | goto t=>exact he.elim
 | panic c=>exact he.elim
 | outgrown=>exact he.elim
end
section
set_option maxRecDepth 100000
open Go.RowKit Go.Shelf
attribute [local go_sem] Oper.semAt_some
def ah (C M B:Nat)(m:Int)(W:World):Prop:=At C 0 B W/\At M 0 m W
theorem pp (B:Nat)(m:Int)(w:World):Calls Tryz.prog 196 #[B,m] w fun e w' =>
  e= .returned (.func (.func 212) #[] #[w.heap.size,.pointer (some ⟨w.heap.size+1,0,none⟩)])/\ah w.heap.size (w.heap.size+1) B m w'/\w'.heap.size=w.heap.size+2/\Below w.heap.size w w':=by
 have hb:=((Below.refl w.heap.size w).alloc (Nat.le_refl _) (.cells #[B] 93)).alloc (by simp) (.cells #[m] 3);have hG:ah w.heap.size (w.heap.size+1) B m ((w.alloc (.cells #[B] 93)).alloc (.cells #[m] 3)):=⟨(At.new _ rfl rfl).alloc _,At.new _ (by simp) rfl⟩;have HB:=hid hb;have HG:=hid hG;clear hb hG
 go_enter Tryz.func196,Tryz.ntmps196
 go_wp2;go_ret;exact⟨rfl,HG.o,by simp,HB.o⟩
theorem ah.own {C M B:Nat}{m:Int}{A A':World}{row:Option Nat}(h:ah C M B m A)(hg:A.grownBy A' row)(hr:∀r,row=some r->∃o:Obj,A.heap[r]? =some o/\o.isCells=false):ah C M B m A':=⟨h.1.own hg hr,h.2.own hg hr⟩
theorem ah.alloc {C M B:Nat}{m:Int}{W:World}(h:ah C M B m W)(o:Obj):ah C M B m (W.alloc o):=⟨h.1.alloc o,h.2.alloc o⟩
theorem ah.below {C M B:Nat}{m:Int}{W W':World}(h:ah C M B m W)(hb:Below W.heap.size W W'):ah C M B m W':=⟨h.1.below hb h.1.lt,h.2.below hb h.2.lt⟩
theorem ah.ob {C M B:Nat}{m:Int}{W:World}(h:ah C M B m W){X i:Nat}(v:Value)(h1:X≠C)(h2:X≠M):ah C M B m (W.setCell ⟨X,i,none⟩ v):=⟨h.1.ob v h1,h.2.ob v h2⟩
theorem xQ {B lb C M:Nat}{s:Sc}{m:Int}{w W:World}(h:bD B lb s w)(hb:Below w.heap.size w W)(hg:ah C M B m W):∃sa sc,Gv w.heap.size C M B s m sa sc W:=by
 obtain⟨sa,sc,ga,gc,c0,c1,c2,c3,c4,ls,lg⟩:=h.ats;exact⟨sa,sc,hg.1.1,hg.2.1,(c0.below hb h.lt).1,(c1.below hb h.lt).1,(c2.below hb h.lt).1,(c3.below hb h.lt).1,ls.1.below hb,ls.2.1,h.lt,hb.size⟩
theorem qz {s:Sc}{m:Int}{L:List Sp}{k:Nat}(h:k<L.length):iP s m (L.take (k+1))=iP s m (L.take k)+(L[k].2-L[k].1-((s.lostOf m L[k]).2-(s.lostOf m L[k]).1)):=by
 induction L generalizing k with
 | nil=>simp at h
 | cons x L ih =>
  cases k with
  | zero=>simp[iP]
  | succ k =>
   have:=ih (k:=k) (by simpa using h);simp only[List.take_succ_cons,iP,List.getElem_cons_succ,this];omega
theorem vF (s:Sc)(m:Int){e:Int}{L:List Sp}(h:aH e L=true):0<=iP s m L/\iP s m L<=aC L:=by
 induction L generalizing e with
 | nil=>exact⟨Int.le_refl _,Int.le_refl _⟩
 | cons x l ih =>
  have h0:=aA.1 h;obtain⟨f1,f2,f3⟩:=dY s m (g:=x) (by omega);have:=ih h0.2;show 0<=x.2-x.1-((s.lostOf m x).2-(s.lostOf m x).1)+iP s m l/\x.2-x.1-((s.lostOf m x).2-(s.lostOf m x).1)+iP s m l<=x.2-x.1+aC l;omega
def wW (S C M B:Nat)(s:Sc)(m:Int)(w:World)(k:Nat)(W:World):Prop:=At S 0 (aC s.ag+iP s m (s.gaps.take k):Int) W/\ah C M B m W/\Below w.heap.size w W
theorem n8 {S C M B:Nat}{s:Sc}{m:Int}{w:World}{N:Nat}(hB:w.heap.size<=N):OwnFrom N (wW S C M B s m w):=fun _ _ _ _ h hg hr=>⟨h.1.own hg (fun r e=>(hr r e).2),h.2.1.own hg (fun r e=>(hr r e).2),dt h.2.2 hg hr (Nat.le_refl _) hB⟩
set_option maxHeartbeats 2000000 in
theorem rA (M0 C0 B lb:Nat) (s:Sc) (m:Int) (w:World) (ok:s.Ok) (cM:w.cell? M0=some (m:Y)) (cC:w.cell? C0=some (B:Y)) (h:bD B lb s w) :
  Calls Tryz.prog 214 #[M0,C0] w fun e w'=>∃v,e= .returned v/\v=(s.pipe m:Y)/\Below w.heap.size w w':=by
 have al:=hid ok;have HS:=hid h;have cS:=block_lt_of_cell cM;have bx:=block_lt_of_cell cC;dsimp only at cS bx;obtain⟨sa,sc,ga,gc,-,-,-,-,⟨c4,-⟩,-,lg⟩:=h.ats;have d9:=hid lg;clear ok h lg;refine(callsIn_wide (n:=4)).1 ?_;refine callsIn_of_wp_marks Tryz.func214 rfl trivial ?_ rfl;simp only[Tryz.ntmps214,List.size_toArray,List.length_cons,List.length_nil,Nat.reduceAdd,Nat.reduceSub,Array.replicate_succ,Array.replicate_zero,List.push_toArray,List.append_toArray,List.nil_append,List.cons_append];refine wpIn_wide.2 ?_;by_cases hm:m<1
 ·go_wp2_with fail;refine ez rfl ⟨_,rfl,?_,Below.refl _ _⟩;show Value.int .i64 0=_;unfold Sc.pipe;rw[if_pos hm]
 have ey:1<=m:=by omega
 have an:=hid (show dH s.ag=aC s.ag by unfold dH;rw[if_pos al.cag]);have b0:=aL al.cag;go_wp2_with fail;refine(du w w.heap.size ga gc s.ag d9.1 (Nat.le_refl _)).mono ?_;rintro e w1⟨rfl,hb1⟩;rw[an.o];have f4:=bJ cM cS hb1;have f5:=bJ cC bx hb1;have hz1:=hb1.size;have f6:=hid hb1;clear hb1 c4;obtain⟨S,hS⟩:∃S,S=w1.heap.size:=⟨_,rfl⟩;have cT:=bU w1 (.cells #[(aC s.ag)] 3);have e4:=bJ f4 (Nat.lt_of_lt_of_le cS hz1) cT;have e5:=bJ f5 (Nat.lt_of_lt_of_le bx hz1) cT;clear cT;go_wp2_with fail;refine(pp B m _).mono ?_;rintro e w3⟨rfl,hG,hz3,hb3⟩;have c5:At S 0 (aC s.ag) w3:=(At.new (W:=w1) (i:=0) (v:=.int .i64 (aC s.ag)) (vs:= #[(aC s.ag)]) 3 hS rfl).below hb3 (by simp;omega);have bn:Below w.heap.size w w3:=(f6.alloc hz1 _).trans (hb3.mono (by simp;omega));obtain⟨g6,g7,d2⟩:=xQ HS.o bn hG;have bo:=hid d2;have c6:=hid c5;have da:=hid bn;have bu:=hid hG;have e6:=c5.lt;have d3:S≠(w1.alloc (.cells #[(aC s.ag)] 3)).heap.size:=by simp;omega
 have d4:S≠(w1.alloc (.cells #[(aC s.ag)] 3)).heap.size+1:=by simp;omega
 have f7:w.heap.size<=S:=by omega
 have e7:=hG.1.lt;generalize (w1.alloc (.cells #[(aC s.ag)] 3)).heap.size=C at d3 d4 bu bo e7|-;clear d2 c5 bn hG hb3 f4 f5 e4 e5 hz3;rw[<-hS];clear hS f6;have hz0:=e6;go_wp2_with fail;refine(wpIn_wide (n:=4)).1 ?_;refine po (n₀:=w.heap.size) (by omega) al.o rfl rfl bo.o none (fun _ e=>by cases e) (wW S C (C+1) B s m w) (n8 (by omega)) (fun k W W' h hb=>⟨h.1.below hb h.1.lt,h.2.1.below hb,h.2.2.trans (hb.mono h.2.2.size)⟩) (fun k W b _ hc=>by obtain⟨x,v,e,-⟩:=hc;cases e) (fun k W h=>⟨h.2.1.1.1,h.2.1.2.1⟩) ?start ?round ?done
 case start =>
  refine⟨?_,bu.o,da.o⟩;rw[List.take_zero];show At S 0 (aC s.ag+0:Int) w3;rw[Int.add_zero];exact c6.o
 case round =>
  intro l k hk W hl eC hI;have hws:=hI.2.2.size;have HI:=hid hI;have HT:=hid (qz (s:=s) (m:=m) hk);have b1:=vF s m (eR (bi s) k);have b2:=(aL (eR (bi s) k)).2.2;have b3:=dz (bi s) hk;have b4:=dY s m (g:=s.gaps[k]) (by omega);clear hI c6 bu bo;generalize s.lostOf m s.gaps[k]=y at HT b4|-;generalize s.gaps[k]=x at HT b3 b4|-;obtain⟨x1,x2⟩:=x;obtain⟨y1,y2⟩:=y;dsimp only at HT b3 b4|-;obtain⟨e9,b4⟩:=b4;replace e9:=e9.symm;subst e9
  gi_wp2
  refine⟨((KeepsOthers.alloc _ _).trans (KeepsOthers.alloc _ _)).from _,((Below.refl _ W).alloc hws _).alloc (by simp;omega) _,(lA.alloc (fun _ e=>by cases e) _).trans (lA.alloc (fun _ e=>by cases e) _) (by simp),fun _ W2=>wW S C (C+1) B s m w k W2/\At W.heap.size 0 x1 W2/\At W.heap.size 1 x2 W2/\At (W.heap.size+1) 0 x1 W2/\At (W.heap.size+1) 1 y2 W2,?_,⟨⟨(HI.1.alloc _).alloc _,(HI.2.1.alloc _).alloc _,(HI.2.2.alloc hws _).alloc (by simp;omega) _⟩,(At.new _ rfl rfl).alloc _,(At.new _ rfl rfl).alloc _,At.new _ (by simp) rfl,At.new _ (by simp) rfl⟩,?_⟩
  ·intro _ A A' row h hg hr;have hr2:=fun r e=>(hr r e).2;exact⟨n8 (N:=w3.heap.size) (by omega) _ _ _ _ h.1 hg hr,h.2.1.own hg hr2,h.2.2.1.own hg hr2,h.2.2.2.1.own hg hr2,h.2.2.2.2.own hg hr2⟩
  rintro W2⟨c7,⟨c0,-⟩,⟨c1,-⟩,⟨d0,-⟩,⟨d1,-⟩⟩;obtain⟨s0,fs⟩:=c7.1;have ac:=hid c7;clear c7 HI
  gi_wp2
  refine⟨(KeepsOthers.setCell _ _ _).from _,(Below.refl _ W2).setCell (p:=⟨S,0,none⟩) f7 _,fun b h1 h2 h3=>⟨Below.heap_setCell _ ⟨S,0,none⟩ _ b (by show b≠S;omega),fun⟨x,v,e,_⟩=>by cases e⟩,?_,ac.2.1.ob _ d3 d4,ac.2.2.setCell (p:=⟨S,0,none⟩) f7 _⟩;rw[HT.o,<-Int.add_assoc];exact ac.1.set _
 case done =>
  intro D W hD hI hDf;obtain⟨s0,fs⟩:=hI.1;have HI:=hid hI;have HD:=hid hDf;have ea:w.heap.size<=D:=by omega
  clear hI hDf hD c6 bu bo;go_wp2_with fail;refine dK rfl HD.o ⟨_,rfl,?_,cj HI.2.2 (Nat.le_refl _) ea⟩;show Value.int .i64 (aC s.ag+iP s m s.gaps)=_;unfold Sc.pipe;rw[if_neg (by omega)]
theorem kK (B lb:Nat)(s:Sc)(m:Int)(w:World)(ok:s.Ok)(h:bD B lb s w) :
  Calls Tryz.prog 198 #[B,m] w fun e w'=>e= .returned (s.pipe m)/\Below w.heap.size w w':=by
 have hb:=(bU w (.cells #[B] 93)).alloc (by simp) (.cells #[m] 3);have HU:=hid (rA (w.heap.size+1) w.heap.size B lb s m ((w.alloc (.cells #[B] 93)).alloc (.cells #[m] 3)) ok (At.new (W:=w.alloc (.cells #[B] 93)) (vs:= #[m]) 3 (by simp) rfl).1 ((At.new (W:=w) (vs:= #[B]) 93 rfl rfl).alloc (.cells #[m] 3)).1 (h.below hb));have HB:=hid hb;clear hb h
 go_enter Tryz.func198,Tryz.ntmps198
 go_wp2_with fail;refine(nR _ _ _ _ HU.o).mono ?_;rintro e w1⟨v,rfl,rfl,hb⟩;have d5:=hid (HB.trans (hb.mono HB.size));clear hb HB HU;go_wp2;go_ret;exact⟨rfl,d5.o⟩
end
section
open Go.RowKit Go.Shelf
attribute [local go_sem] Oper.semAt_some
theorem mO {s:Sc}{m:Int}{L:List Sp}{k:Nat}(h:k<L.length):aw ((L.take (k+1)).map (s.lostOf m))=aw ((L.take k).map (s.lostOf m))++(if(s.lostOf m L[k]).1<(s.lostOf m L[k]).2 then [s.lostOf m L[k]]else []):=by
 rw[List.take_succ_eq_append_getElem h,List.map_append];unfold aw;rw[List.filter_append,List.map_cons,List.map_nil]
 congr 1
 by_cases hl:(s.lostOf m L[k]).1<(s.lostOf m L[k]).2
 ·rw[if_pos hl,List.filter_cons_of_pos (by simpa using hl)];rfl
 rw[if_neg hl,List.filter_cons_of_neg (by simpa using hl)];rfl
theorem jY (s:Sc)(m:Int)(L:List Sp):(aw (L.map (s.lostOf m))).length<=L.length:=by
 unfold aw;exact Nat.le_trans (List.length_filter_le _ _) (by rw[List.length_map];exact Nat.le_refl _)
def xR (A0 N C M B:Nat)(s:Sc)(m:Int)(w:World)(k:Nat)(W:World):Prop :=
 ∃v,At A0 0 v W/\aG W N v (aw ((s.gaps.take k).map (s.lostOf m)))/\ah C M B m W/\Below w.heap.size w W
theorem tV {A0 N0 C M B:Nat}{s:Sc}{m:Int}{w:World}{N:Nat}(hB:w.heap.size<=N):OwnFrom N (xR A0 N0 C M B s m w):=fun _ _ _ _ ⟨v,h1,h2,h3,h4⟩ hg hr =>
 ⟨v,h1.own hg (fun r e=>(hr r e).2),h2.own hg (fun r e=>(hr r e).2),h3.own hg (fun r e=>(hr r e).2),dt h4 hg hr (Nat.le_refl _) hB⟩
set_option maxHeartbeats 2000000 in
theorem rB (M0 C0 B lb:Nat) (s:Sc) (m:Int) (w:World) (ok:s.Ok) (cM:w.cell? M0=some (m:Y)) (cC:w.cell? C0=some (B:Y)) (h:bD B lb s w) :
  Calls Tryz.prog 195 #[M0,C0] w fun e w'=>∃v,e= .returned v/\aG w' w.heap.size v (s.lost m)/\Below w.heap.size w w':=by
 have al:=hid ok;have HS:=hid h;have cS:=block_lt_of_cell cM;have bx:=block_lt_of_cell cC;dsimp only at cS bx;clear ok h;refine(callsIn_wide (n:=4)).1 ?_;refine callsIn_of_wp_marks Tryz.func195 rfl trivial ?_ rfl;simp only[Tryz.ntmps195,List.size_toArray,List.length_cons,List.length_nil,Nat.reduceAdd,Nat.reduceSub,Array.replicate_succ,Array.replicate_zero,List.push_toArray,List.append_toArray,List.nil_append,List.cons_append];refine wpIn_wide.2 ?_;by_cases hm:m<1
 ·go_wp2_with fail;refine ez rfl ⟨_,rfl,?_,Below.refl _ _⟩;unfold Sc.lost;rw[if_pos hm];exact aG.nil _ _
 have ey:1<=m:=by omega
 have cT:=bU w (.cells #[.slice none 0 0] 41);have e4:=bJ cM cS cT;have e5:=bJ cC bx cT;clear cT;go_wp2_with fail;refine(pp B m _).mono ?_;rintro e w3⟨rfl,hG,hz3,hb3⟩;have c5:At w.heap.size 0 (.slice none 0 0) w3:=(At.new (W:=w) (i:=0) (v:=.slice none 0 0) (vs:= #[.slice none 0 0]) 41 rfl rfl).below hb3 (by simp);have bn:Below w.heap.size w w3:=((Below.refl _ w).alloc (Nat.le_refl _) _).trans (hb3.mono (by simp));have g8:=bJ cM cS bn;have g9:=bJ cC bx bn;obtain⟨g6,g7,d2⟩:=xQ HS.o bn hG;have bo:=hid d2;have c6:=hid c5;have da:=hid bn;have bu:=hid hG;have e6:=c5.lt;have d3:w.heap.size≠(w.alloc (.cells #[.slice none 0 0] 41)).heap.size:=by simp
 have d4:w.heap.size≠(w.alloc (.cells #[.slice none 0 0] 41)).heap.size+1:=by simp;omega
 have e7:=hG.2.lt;generalize (w.alloc (.cells #[.slice none 0 0] 41)).heap.size=C at d3 d4 bu bo e7|-;clear d2 c5 bn hG hb3 e4 e5 hz3 cM;go_wp2_with fail;refine(wpIn_wide (n:=4)).1 ?_
 refine po (n₀:=w.heap.size) (by omega) al.o rfl rfl bo.o (some w.heap.size) (fun x e=>by cases e;exact e6) (xR w.heap.size (w3.heap.size+2) C (C+1) B s m w) (tV (by omega)) (fun k W W' ⟨v,h1,h2,h3,h4⟩ hb=>⟨v,h1.below hb h1.lt,h2.own2 hb,h3.below hb,h4.trans (hb.mono h4.size)⟩)
  (fun k W b ⟨v,h1,h2,h3,h4⟩ hc=>by obtain⟨x,v',e,hc,ho⟩:=hc;cases e;rw[h1.1]at hc;cases hc;exact(h2.lt b ho).2) (fun k W ⟨v,h1,h2,h3,h4⟩=>⟨h3.1.1,h3.2.1⟩) ?start ?round ?done
 case start=>exact⟨_,c6.o,aG.nil _ _,bu.o,da.o⟩
 case round =>
  rintro l k hk W hl eC⟨v,hA,hO,hG,hB⟩;have hws:=hB.size;have HI:=hid (show At w.heap.size 0 v W/\aG W (w3.heap.size+2) v (aw ((s.gaps.take k).map (s.lostOf m)))/\ah C (C+1) B m W/\Below w.heap.size w W from⟨hA,hO,hG,hB⟩);have HT:=hid (mO (s:=s) (m:=m) hk);have f8:=jY s m (s.gaps.take k);have hgl:=jx s;rw[List.length_take]at f8;clear hA hO hG hB c6 bu bo;generalize aw ((s.gaps.take k).map (s.lostOf m))=O at HI HT f8;generalize s.lostOf m s.gaps[k]=y at HT|-;generalize s.gaps[k]=x;obtain⟨x1,x2⟩:=x;obtain⟨y1,y2⟩:=y;dsimp only at HT|-;have gd:=HI.1.lt
  gi_wp2
  refine⟨(KeepsOthers.alloc _ _).from _,(Below.refl _ W).alloc hws _,lA.alloc (fun x e=>by cases e;exact gd) _,fun _ W2=>(At w.heap.size 0 v W2/\aG W2 (w3.heap.size+2) v O/\ah C (C+1) B m W2/\Below w.heap.size w W2)/\At W.heap.size 0 y1 W2/\At W.heap.size 1 y2 W2,?_,⟨⟨HI.1.alloc _,HI.2.1.alloc _,HI.2.2.1.alloc _,HI.2.2.2.alloc hws _⟩,At.new _ rfl rfl,At.new _ rfl rfl⟩,?_⟩
  ·intro _ A A' row h hg hr;have hr2:=fun r e=>(hr r e).2;exact⟨⟨h.1.1.own hg hr2,h.1.2.1.own hg hr2,h.1.2.2.1.own hg hr2,dt h.1.2.2.2 hg hr (Nat.le_refl _) (by omega)⟩,h.2.1.own hg hr2,h.2.2.own hg hr2⟩
  rintro W2⟨c7,⟨c0,-⟩,⟨c1,-⟩⟩;obtain⟨a0,f0⟩:=c7.1;have ac:=hid c7;clear c7 HI;by_cases hy:y1<y2
  ·have hW2:W.heap.size<W2.heap.size:=block_lt_of_cell c0
   gi_wp2_with (first | (gi_at_builtin;refine dW _ rfl _ _ rfl (w3.heap.size+2) _ _ rfl (ac.2.1.alloc _) (by omega) W2.heap.size (y1,y2) rfl (by simp) (by simp) (by simp;omega) ?_))
   intro v' w' ho hgr hbl;obtain⟨gx,gy,hv',-⟩:=ho.at (by rw[List.length_append];simp;omega);have hA':At w.heap.size 0 v w':=(ac.1.alloc _).grown hgr (fun e=>by have:=(ac.2.1.lt _ e).1;omega);have dc:ah C (C+1) B m w':=⟨(ac.2.2.1.1.alloc _).grown hgr (fun e=>by have:=(ac.2.1.lt _ e).1;omega),(ac.2.2.1.2.alloc _).grown hgr (fun e=>by have:=(ac.2.1.lt _ e).1;omega)⟩;have hB':Below w.heap.size W2 w':=((Below.refl w.heap.size W2).alloc (by omega) _).trans (aM hgr (by simp;omega) (fun b e=>by have:=(ac.2.1.lt _ e).1;omega));have hK':=((KeepsOthers.alloc W2 (.cells #[y1,y2] 92)).trans (cQ (ac.2.1.alloc _) hgr))
   have hne:v'.ownBlock≠some w.heap.size:=by
    intro e;have:=(ho.lt _ e).1;omega
   obtain⟨a1,f1⟩:=hA'
   have dk:lA (some w.heap.size) (w3.heap.size+2) W2 (w'.setCell w.heap.size v'):=by
    intro b h1 h2 h3;have hvb:v.ownBlock≠some b:=fun e=>h3 ⟨_,_,rfl,ac.1.1,e⟩;refine⟨(Below.heap_setCell _ ⟨w.heap.size,0,none⟩ _ b (by show b≠w.heap.size;omega)).trans ((hgr.block b (by simp;omega) (fun e=>hvb e.symm)).trans (Below.heap_alloc _ _ _ h1)),?_⟩;rintro⟨x,u,e,hc,ho2⟩
    cases e
    rw[World.cell?_setCell_same _ _ _ a1]at hc
    cases hc
    rcases hbl with h | ⟨kk,h,hk⟩
    ·rw[h]at ho2;exact hvb ho2
    rw[h]at ho2;cases ho2;omega
   have HN:=hid (And.intro ho (And.intro hne (And.intro dc (And.intro hB' (And.intro hK' dk)))));have f9:=ac.2.2.2;have d5:=hid f9;have HF:=hid f1;clear ho hgr hbl a0 f0 c0 c1 dc hB' hK' dk hne f9 ac;generalize (O++[(y1,y2)]).length=nl at hv';subst hv'
   gi_wp2_with fail
   obtain⟨ho,hne,dc,hB',hK',dk⟩:=HN.o;refine⟨(hK'.trans (KeepsOthers.setCell _ _ _)).from _,hB'.setCell (p:=⟨w.heap.size,0,none⟩) (Nat.le_refl _) _,dk,_,(show At w.heap.size 0 v w' from⟨a1,HF.o⟩).set _,?_,dc.ob _ d3 d4,(d5.trans hB').setCell (p:=⟨w.heap.size,0,none⟩) (Nat.le_refl _) _⟩;rw[HT.o,if_pos hy];exact ho.setCell _ _ _ hne
  gi_wp2
  refine⟨KeepsFrom.refl _ _,Below.refl _ _,lA.refl _ _ _,v,ac.1,?_,ac.2.2⟩;rw[HT.o,if_neg (by omega),List.append_nil];exact ac.2.1
 case done =>
  rintro D W hD⟨v,hA,hO,hG,hB⟩ hDf;rw[List.take_length]at hO;have d6:=hid (iT s m).1;have hvl:=jY s m s.gaps;have hgl:=jx s;have hlo:=hid (show s.lost m=dI (s.all m) s.ag from pb ey);rw[show aw (s.gaps.map (s.lostOf m))=s.all m from rfl]at hO hvl;generalize s.all m=VL at hO hvl d6 hlo;obtain⟨va,vc,rfl,hsp,-,-⟩:=hO.at (by omega);obtain⟨hE,hF,ga,gc,-,-,-,-,q4,-,lg⟩:=(HS.below hB).ats;have d9:=hid lg;have cF:=hid hsp;have HB:=hid hB;have HD:=hid hDf;have ea:w.heap.size<=D:=by omega
  have hK:=(show(fun W:World=>W.cell? w.heap.size=some (.slice va VL.length vc)/\W.cell? C0=some (B:Y)/\W.cell? ⟨B,4,none⟩=some (.slice ga s.ag.length gc)) W from⟨hA.1,bJ cC bx hB,q4.1⟩);clear hA hO hG hB hDf hD c6 bu bo da lg hsp q4 g8 g9;go_wp2_with fail;refine wp_mono (Q:=fP _) ?_ (hU _);refine bC (fun W:World=>W.cell? w.heap.size=some (.slice va VL.length vc)/\W.cell? C0=some (B:Y)/\W.cell? ⟨B,4,none⟩=some (.slice ga s.ag.length gc)) (hK) fun hZ=>?_;clear hK;refine aB 0 1 2 3 ?_;refine aO 4 ?_;refine aX 5 fun Kq hKq=> ?_;go_simp;refine(gH W.drew W.heap.size va ga vc gc VL s.ag (-1) (-1) (cF.below (Below.refl _ W).drew) (d9.1.below (Below.refl _ W).drew) d9.2.1 (Nat.le_refl _) d6.o al.cag).mono ?_;rintro e w5⟨r,rfl,hr,hb⟩;have hb0:=hb;replace hb:Below W.heap.size W w5:=(Below.refl W.heap.size W).drew.trans hb;have hK:=(show(fun W:World=>W.cell? w.heap.size=some (.slice va VL.length vc)/\W.cell? C0=some (B:Y)/\W.cell? ⟨B,4,none⟩=some (.slice ga s.ag.length gc)) w5 from⟨bJ hZ.1 (block_lt_of_cell hZ.1) hb0,bJ hZ.2.1 (block_lt_of_cell hZ.2.1) hb0,bJ hZ.2.2 (block_lt_of_cell hZ.2.2) hb0⟩);have fa:=hid ((hb.block D (Array.getElem?_eq_some_iff.1 HD.o).1).trans HD.o);have gg:=hid (HB.trans (hb.mono HB.size));have HR:=hid (hr.mono (show w.heap.size<=W.drew.heap.size from HB.size));clear hr hb hb0;go_simp;refine hKq.out _ _ (hK) ?_;clear hKq Kq hZ;refine fun hZ=>aT ?_;clear hK;refine aO 6 ?_;refine az ?_ _;clear hZ;simp only[fP];go_wp2_with fail
  try rw[Exit.noGoto_ret]
  refine dK rfl fa.o ⟨_,rfl,?_,cj gg.o (Nat.le_refl _) ea⟩;rw[hlo.out];exact HR.own (grownBy_putObj' w5 D _) (fun r e=>by cases e;exact⟨_,fa.o,rfl⟩)
theorem iH (B lb:Nat)(s:Sc)(m:Int)(w:World)(ok:s.Ok)(h:bD B lb s w) :
  Calls Tryz.prog 161 #[B,m] w fun e w'=>∃v,e= .returned v/\aG w' w.heap.size v (s.lost m)/\Below w.heap.size w w':=by
 have hb:=(bU w (.cells #[B] 93)).alloc (by simp) (.cells #[m] 3);have HU:=hid (rB (w.heap.size+1) w.heap.size B lb s m ((w.alloc (.cells #[B] 93)).alloc (.cells #[m] 3)) ok (At.new (W:=w.alloc (.cells #[B] 93)) (vs:= #[m]) 3 (by simp) rfl).1 ((At.new (W:=w) (vs:= #[B]) 93 rfl rfl).alloc (.cells #[m] 3)).1 (h.below hb));have HB:=hid hb;clear hb h
 go_enter Tryz.func161,Tryz.ntmps161
 go_wp2_with fail;refine(nS _ _ _ _ HU.o).mono ?_;rintro e w1⟨v,rfl,hO,hb⟩;have HO:=hid (hO.mono HB.size);have d5:=hid (HB.trans (hb.mono HB.size));clear hO hb HB HU;go_wp2;go_ret;exact⟨v,rfl,HO.o,d5.o⟩
end
end Go.Proofs.YtclkcmidhhfdmaaGreatDoor
