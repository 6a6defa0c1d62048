import Derived.Test.YtclkcmidhhfdmaaGreatDoorUb2
import Derived.Test.YtclkcmidhhfdmaaGreatDoorUb13
import Derived.Deep.CutBlock
import Derived.Deep.DeepCutAuto
namespace Go.Proofs.YtclkcmidhhfdmaaGreatDoor
open Lib (hid)
section
set_option maxRecDepth 100000
open Go.RowKit Go.Shelf
def WB (w:World)(n₀:Nat)(v:Value)(L:List Sp):Prop:=∃a cap,v= .slice a L.length cap/\SpAt w n₀ a L/\L.length<=cap
theorem WB.tail {w:World}{n₀:Nat}{y:Sp}{t:List Sp}{b o n cap:Nat}(h:WB w n₀ (.slice (some ⟨b,o,none⟩) n cap) (y::t))(_hc1:cap≠1):WB w n₀ (.slice (some ⟨b,o+2,none⟩) t.length (cap-1)) t:=by
 obtain⟨a,cap',hv,hs,hc⟩:=h
 cases hv
 obtain⟨b',o',e,hb,hcs⟩:=hs.cells (by simp)
 cases e
 have hs2:=hs.small;rw[List.length_cons]at hc hs2;refine⟨_,_,rfl,⟨by omega,fun hl=>⟨b,o+2,rfl,hb,fun i hi=> ?_⟩⟩,by omega⟩;have:=hcs (i+1) (by simpa using hi);rw[show o+(i+1)*2=o+2+i*2 by omega]at this
 simpa using this
theorem wP {e a:Int}{l:List Sp}(h:aH e l=true):∀z∈jb a l,a<z.2:=by
 induction l generalizing e with
 | nil=>intro z hz;cases hz
 | cons x l ih =>
  rw[aA]at h;rw[cG];split
  ·exact ih h.2
  intro z hz
  rcases List.mem_cons.1 hz with rfl | hz
  ·omega
  have h1:=bO h.2 z hz;unfold gb at h1;have:=cK h.2 (show af z.1 l from⟨z,hz,Int.le_refl _,h1.2.1⟩);omega
structure RestB (LA LB:List Sp)(k:Nat)(bl:List Sp):Prop where
 canon:∃e,aH e bl=true
 rest:∀a t:Int,(∀y∈LA.take k,y.1<=a)->bL t a bl=bL t a LB
theorem RestB.start {LA LB:List Sp}{e:Int}(h:aH e LB=true):RestB LA LB 0 LB:=⟨⟨e,h⟩,fun _ _ _=>rfl⟩
theorem ql {e:Int}{l:List Sp}(h:aH e l=true)(a:Int):∃e',aH e' (jb a l)=true:=by
 induction l generalizing e with
 | nil=>exact⟨e,h⟩
 | cons x l ih =>
  rw[cG];split
  ·exact ih (aA.1 h).2
  exact⟨e,h⟩
theorem RestB.step {LA LB:List Sp}{ea:Int}{k:Nat}{bl:List Sp}(h:RestB LA LB k bl)(ha:aH ea LA=true)(hk:k<LA.length):RestB LA LB (k+1) (jb LA[k].1 bl)/\bL LA[k].2 LA[k].1 (jb LA[k].1 bl)=bL LA[k].2 LA[k].1 LB:=by
 have bd:∀(L:List Sp) (e:Int),aH e L=true->L.Pairwise (fun x y=>x.1<=y.1):=by
  intro L
  induction L with
  | nil=>intro _ _;exact List.Pairwise.nil
  | cons x l ih =>
   intro e hc;rw[aA]at hc;refine List.Pairwise.cons (fun y hy=> ?_) (ih _ hc.2);have:=cK hc.2 (show af y.1 l from⟨y,hy,Int.le_refl _,(bO hc.2 y hy).2.1⟩);omega
 have hp:=bd LA ea ha;obtain⟨e,he⟩:=h.canon;have key:∀a t:Int,LA[k].1<=a->bL t a (jb LA[k].1 bl)=bL t a bl:=fun a t hle=>by rw[<-mi (jb LA[k].1 bl),ui hle,mi]
 have hle:∀y∈LA.take k,y.1<=LA[k].1:=fun y hy=>by
  obtain⟨i,hi,rfl⟩:=List.mem_iff_getElem.1 hy;rw[List.length_take]at hi;rw[List.getElem_take];exact List.pairwise_iff_getElem.1 hp i k (by omega) hk (by omega)
 refine⟨⟨ql he _,fun a t hall=> ?_⟩,?_⟩
 ·have hx:=hall LA[k] (by rw[List.take_succ_eq_append_getElem hk];exact List.mem_append_right _ (List.mem_singleton_self _));rw[key a t hx];exact h.rest a t (fun y hy=>Int.le_trans (hle y hy) hx)
 rw[key _ _ (Int.le_refl _)];exact h.rest _ _ hle
set_option maxHeartbeats 4000000 in
theorem gH (w:World) (n₀:Nat) (aa ab:Option Addr) (ca cb:Nat) (LA LB:List Sp) (ea eb:Int) (hA:SpAt w n₀ aa LA) (hBs:SpAt w n₀ ab LB) (hcb:LB.length<=cb) (hn:n₀<=w.heap.size) (hca:aH ea LA=true) (hcbn:aH eb LB=true) :
  Calls Tryz.prog 153 #[.slice aa LA.length ca,.slice ab LB.length cb] w fun e w'=>∃v,e= .returned v/\aG w' w.heap.size v (dI LA LB)/\Below w.heap.size w w':=by
 have e4:=hid hA;have e5:=hid hBs;have ba:=hid hca;have d2:=hid hcbn;have e6:=hid (fun k=>mC hca k);have e7:=hA.small;have e8:=hBs.small;clear hA hBs hca hcbn
 go_enter Tryz.func153,Tryz.ntmps153
 go_wp2_with fail
 go_loopg [1,5,13] LA.length (fun g bv ov kv wr=>∃(k:Nat) (bl:List Sp),kv=((k:Int):Y)/\g+k=LA.length/\WB w n₀ bv bl/\RestB LA LB k bl/\aG wr w.heap.size ov (dI (LA.take k) LB)/\Below w.heap.size w wr)
 case atStart=>exact⟨0,LB,rfl,rfl,⟨_,_,rfl,e5.o,hcb⟩,RestB.start d2.o,aG.nil _ _,Below.refl _ _⟩
 case round =>
  obtain⟨k,bl,rfl,hg,an,hrest,hO,hB⟩:=hrel;have HV:=hid an;have HR:=hid hrest;have HO:=hid hO;have HB:=hid hB;have hws:=hB.size;clear an hrest hO hB;by_cases hk:k<LA.length
  ·obtain⟨sb,so,rfl,fb,hcs⟩:=e4.cells (by omega);obtain⟨c0,c1⟩:=hcs k hk;have d0:=(HB.cell (p:=⟨sb,_,none⟩) (by show sb<w.heap.size;omega)).trans c0;have d1:=(HB.cell (p:=⟨sb,_,none⟩) (by show sb<w.heap.size;omega)).trans c1;clear c0 c1 hcs;have cS:=hid (show dI (LA.take (k+1)) LB=dI (LA.take k) LB++bL LA[k].2 LA[k].1 LB by rw[List.take_succ_eq_append_getElem hk,qK]);have b5:=hid (HR.step ba.o hk);have e9:=hid (bO ba.o LA[k] (List.getElem_mem hk));have ec:(k:Int)<(LA.length:Int):=by omega
   generalize LA[k]=x at d0 d1 cS b5 e9;obtain⟨x1,x2⟩:=x;dsimp only at d0 d1 cS b5
   go_upto_block 2 with fail
   have a5:=WI.new HO.o HB.o hws x1 x2;clear d0 d1;obtain⟨X,hX⟩:∃X,X=wr.heap.size:=⟨_,rfl⟩;have fl:w.heap.size<=X:=by omega
   rw[<-hX]at a5|-;generalize wr.alloc (.cells #[x1,x2] 92)=W1 at a5|-;have a4:=hid a5;clear hX a5 HO HB hws wr
   go_cut [1] (fun bv wx=>WB w n₀ bv (jb x1 bl)/\WI w.heap.size X x1 x2 w u5 (dI (LA.take k) LB) wx)
   case first =>
    go_wp2_with fail
    go_loopg [1] bl.length (fun g bv wr=>∃(b2:List Sp),g=b2.length/\jb x1 b2=jb x1 bl/\WB w n₀ bv b2/\WI w.heap.size X x1 x2 w u5 (dI (LA.take k) LB) wr)
    case atStart=>exact⟨bl,rfl,rfl,HV.o,a4.o⟩
    case round =>
     clear HV a4;obtain⟨b2,hgl,hup,an,a5⟩:=hrel;have HV:=hid an;have cX:=hid hup;have a4:=hid a5;have d3:=hid hgl;obtain⟨e0,e1⟩:=a5.cells;clear an hup a5 hgl
     cases b2 with
     | nil =>
      obtain⟨ab,cb,rfl,-,-⟩:=HV.o;go_wp2_with fail
      go_quiet (fail)
      go_wp2_with fail
      go_meet
      case rel=>exact⟨by rw[<-cX.o];exact HV.o,a4.drewN nq⟩
     | cons y t =>
      obtain⟨ab,cb,rfl,hsp,hcap⟩:=HV.o;obtain⟨bb,bo,rfl,hbb,hbc⟩:=hsp.cells (by simp);obtain⟨p0,p1⟩:=hbc 0 (by simp);simp only[Nat.zero_mul,Nat.add_zero,List.getElem_cons_zero]at p0 p1;have q0:=(a4.below.cell (p:=⟨bb,_,none⟩) (by show bb<w.heap.size;omega)).trans p0;have q1:=(a4.below.cell (p:=⟨bb,_,none⟩) (by show bb<w.heap.size;omega)).trans p1;clear p0 p1 hbc hsp;obtain⟨y1,y2⟩:=y;dsimp only at q0 q1;have d4:((y1,y2)::t).length=t.length+1:=rfl;have eg:=hid (WB.tail HV.o);rw[d4]at hcap|-;clear d4;by_cases hy:y2<=x1
      ·go_wp2_with fail
       go_quiet (fail)
       by_cases hc1:cb=1
       ·subst hc1;go_wp2_with fail;obtain rfl:t=[]:=List.eq_nil_of_length_eq_zero (by omega)
        go_roundg 0
        case measure=>have:=d3.o;simp at this;omega
        case rel=>exact⟨[],rfl,by rw[<-cX.o,cG,if_pos (by exact hy)],⟨_,_,rfl,⟨by simp,fun h=>absurd h (by simp)⟩,by simp⟩,a4.drewN nq⟩
       go_wp2_with fail
       go_roundg t.length
       case measure=>have:=d3.o;rw[List.length_cons]at this;omega
       case rel=>exact⟨t,rfl,by rw[<-cX.o,cG,if_pos (by exact hy)],eg.o hc1,a4.drewN nq⟩
      go_wp2_with fail
      go_quiet (fail)
      go_wp2_with fail
      go_meet
      case rel=>exact⟨by rw[<-cX.o,cG,if_neg (by show ¬y2<=x1;omega)];exact HV.o,a4.drewN nq⟩
   case rest =>
    clear a4;obtain⟨an,a5⟩:=hcut;have a4:=hid a5;obtain⟨e0,e1⟩:=a5.cells;have d5:=hid (fun(e:Int) (h:aH e bl=true)=>wP (a:=x1) h);obtain⟨ei,be⟩:=HR.canon;have d6:=hid (d5.o ei be);clear d5 be;generalize jb x1 bl=b1 at an b5 d6;have HV:=hid an;obtain⟨ab,cb,rfl,hsp,hcap⟩:=an;have d7:=hid hsp;have hb1:=hsp.small;clear a5 hsp;have b6:=hid (show dI (LA.take k) LB++bL x2 x1 b1=dI (LA.take (k+1)) LB by rw[cS.o,b5.2]);have HLEN:=hid (bR (ew (e6.o (k+1)) d2.o).1);obtain⟨TOT,hTOT⟩:∃TOT,TOT=dI (LA.take (k+1)) LB:=⟨_,rfl⟩;have bI:=hid hTOT.symm;rw[<-hTOT]at b6 HLEN;clear hTOT cS;generalize dI (LA.take k) LB=out0 at a4 b6
    go_upto_block 4 with fail
    go_cut [5,8] (fun ov av wx=>∃out at',av= .int .i64 at'/\WI w.heap.size X x1 x2 w ov out wx/\out++one at' x2=TOT)
    case first =>
     go_wp2_with fail
     go_loopg [5,8,35] b1.length (fun g ov av iv wr=>∃(i:Nat) (out:List Sp) (at':Int),iv=((i:Int):Y)/\av= .int .i64 at'/\g+i=b1.length/\WI w.heap.size X x1 x2 w ov out wr/\out++bL x2 at' (b1.drop i)=TOT/\(∃e,aH e (b1.drop i)=true)/\∀z∈b1.drop i,at'<z.2)
     case atStart=>exact⟨0,_,x1,rfl,rfl,rfl,a4.o,b6.o,b5.1.canon,d6.o⟩
     case round =>
      clear a4 e0 e1;obtain⟨i,out,at',rfl,rfl,fn,a5,htot,hcn,hgt⟩:=hrel;have a4:=hid a5;have HT:=hid htot;have bn:=hid hcn;have HG2:=hid hgt;obtain⟨e0,e1⟩:=a5.cells;have hws:=a5.below.size;clear a5 htot hcn hgt;by_cases hi:i<b1.length
      ·obtain⟨bb,bo,rfl,hbb,hbc⟩:=d7.cells (by omega);obtain⟨p0,p1⟩:=hbc i hi;have q0:=(a4.below.cell (p:=⟨bb,_,none⟩) (by show bb<w.heap.size;omega)).trans p0;have q1:=(a4.below.cell (p:=⟨bb,_,none⟩) (by show bb<w.heap.size;omega)).trans p1;clear p0 p1 hbc;have cf:=hid (List.drop_eq_getElem_cons hi);have fp:(i:Int)<(b1.length:Int):=by omega
       generalize b1[i]=y at q0 q1 cf;obtain⟨y1,y2⟩:=y;dsimp only at q0 q1;rw[cf.o]at HT bn HG2;have el:at'<y2:=HG2.o _ List.mem_cons_self;obtain⟨ey,cY⟩:=bn.o;rw[aA]at cY;have fr:y1<y2:=cY.1.2.2.1;have c5:=hid cY.2;clear cY;have cg:=hid (show out++(if x2<=y1 then one at' x2 else one at' y1++bL x2 y2 (b1.drop (i+1)))=TOT by have h:=HT.o;rw[show bL x2 at' ((y1,y2)::b1.drop (i+1))=if y2<=at' then bL x2 at' (b1.drop (i+1))else if x2<=y1 then one at' x2 else one at' y1++bL x2 y2 (b1.drop (i+1))from rfl,if_neg (by omega)]at h;exact h);have d8:=hid (show ∀z∈b1.drop (i+1),y2<z.2 from fun z hz=>by have h1:=bO c5.o z hz;unfold gb at h1;have:=cK c5.o (show af z.1 (b1.drop (i+1))from⟨z,hz,Int.le_refl _,h1.2.1⟩);omega);clear HT bn HG2 cf;have g1:=(a4.alloc hws (.cells #[y1,y2] 92)).x1.1;by_cases h1:x2<=y1
       ·go_wp2_with fail
        go_meet
        case rel=>exact⟨out,at',rfl,a4.alloc hws _,by have h:=cg.o;rw[if_pos h1]at h;exact h⟩
       have hol:out.length<=4398046511104:=by have h:=cg.o;have h2:=HLEN.o;rw[<-h,List.length_append]at h2;omega
       have d9:=hid (show out++one at' y1++bL x2 y2 (b1.drop (i+1))=TOT by have h:=cg.o;rw[if_neg (by omega),<-List.append_assoc]at h;exact h);by_cases h2:at'<y1
       ·go_wp2_with (first | (at_builtin;refine ar _ rfl _ _ rfl w.heap.size _ _ rfl ((a4.own.alloc _).alloc _) hol (wr.heap.size+1) (at',y1) rfl (by simp) (by simp) (by simp;omega) ?_))
        intro v' w' ho hgr hbl;have a5:=((a4.alloc hws (.cells #[y1,y2] 92)).alloc (by simp;omega) (.cells #[.int .i64 at',y1] 92)).app (Nat.le_refl _) ho hgr (by rcases hbl with h | ⟨kk,h,hk⟩;exact .inl h;exact .inr ⟨kk,h,by simp;omega⟩);have c6:=hid a5
        have fs:w'.cell? ⟨wr.heap.size,1,none⟩=some (y2:Y):=by
         refine(oY hgr (by
          show((wr.alloc (.cells #[y1,y2] 92)).alloc (.cells #[.int .i64 at',y1] 92)).cell? ⟨wr.heap.size,1,none⟩=_;exact(((At.new (W:=wr) (vs:= #[y1,y2]) 92 (i:=1) rfl rfl).alloc (.cells #[.int .i64 at',y1] 92))).1) ?_)
         intro e;have:=(a4.own.lt _ e).2;omega
        clear ho hgr hbl a5 q0 q1 e0 e1 g1;go_wp2_with fail
        go_roundg (gk-1)
        case measure=>omega
        case rel=>exact⟨i+1,_,y2,by go_num,rfl,by omega,c6.o,by have h:=d9.o;unfold one at h;rw[if_pos h2]at h;exact h,⟨_,c5.o⟩,d8.o⟩
       have h2':y1<=at':=by omega
       go_wp2_with fail
       go_roundg (gk-1)
       case measure=>omega
       case rel=>exact⟨i+1,_,y2,by go_num,rfl,by omega,a4.alloc hws _,by have h:=d9.o;unfold one at h;rw[if_neg (by omega),List.append_nil]at h;exact h,⟨_,c5.o⟩,d8.o⟩
      obtain rfl:i=b1.length:=by omega
      go_wp2_with fail
      go_meet
      case rel=>exact⟨out,at',rfl,a4.o,by have h:=HT.o;rw[List.drop_length]at h;exact h⟩
    case rest =>
     clear a4 e0 e1 d7;obtain⟨out,at',rfl,a5,htot⟩:=hcut;have a4:=hid a5;have HT:=hid htot;obtain⟨e0,e1⟩:=a5.cells;have hws:=a5.below.size;clear a5 htot;have hol:out.length<=4398046511104:=by have h:=HT.o;have h2:=HLEN.o;rw[<-h,List.length_append]at h2;omega
     by_cases h2:at'<x2
     ·go_wp2_with (first | (at_builtin;refine ar _ rfl _ _ rfl w.heap.size _ _ rfl (a4.own.alloc _) hol _ (at',x2) rfl (by simp) (by simp) (by simp;omega) ?_))
      intro v' w' ho hgr hbl;have a5:=(a4.alloc hws (.cells #[.int .i64 at',x2] 92)).app (Nat.le_refl _) ho hgr (by rcases hbl with h | ⟨kk,h,hk⟩;exact .inl h;exact .inr ⟨kk,h,by simp;omega⟩);have c6:=hid a5;clear ho hgr hbl a5 e0 e1;go_wp2_with fail
      go_roundg (LA.length-(k+1))
      case measure=>omega
      case rel=>exact⟨k+1,b1,by go_num,by omega,HV.o,b5.1,by rw[bI.o];have h:=HT.o;unfold one at h;rw[if_pos h2]at h;rw[<-h];exact c6.own,c6.below⟩
     have h2':x2<=at':=by omega
     go_wp2_with fail
     go_roundg (LA.length-(k+1))
     case measure=>omega
     case rel=>exact⟨k+1,b1,by go_num,by omega,HV.o,b5.1,by rw[bI.o];have h:=HT.o;unfold one at h;rw[if_neg (by omega),List.append_nil]at h;rw[<-h];exact a4.own,a4.below⟩
  obtain rfl:k=LA.length:=by omega
  have hO:=HO.o;rw[List.take_length]at hO;have em:=hid hO;clear hO;go_wp2;go_ret;exact⟨_,rfl,em.o,HB.o⟩
end
section
open Go.RowKit Go.Shelf
def dR (s:Sc)(sa:Option Addr)(sc:Nat)(ga:Option Addr)(gc:Nat):Array Value:= #[s.una,s.next,s.mark,.slice sa s.sk.length sc,.slice ga s.ag.length gc]
def bQ (B lbs lbg:Nat)(s:Sc)(W:World):Prop:=(B<lbs/\B<lbg)/\(lbs<=W.heap.size/\lbg<=W.heap.size)/\∃sa sc ga gc,W.heap[B]? =some (.cells (dR s sa sc ga gc) 171 (0,0))/\ay lbs s.sk sa sc W/\ay lbg s.ag ga gc W
def bD (B lb:Nat)(s:Sc)(W:World):Prop:=bQ B lb lb s W
theorem bQ.lt {B lbs lbg:Nat}{s:Sc}{W:World}(h:bQ B lbs lbg s W):B<W.heap.size:=Nat.lt_of_lt_of_le h.1.1 h.2.1.1
theorem bQ.below {B lbs lbg:Nat}{s:Sc}{W W':World}(h:bQ B lbs lbg s W)(hb:Below W.heap.size W W'):bQ B lbs lbg s W':=by
 have hl:=h.lt;obtain⟨h1,⟨h2,h3⟩,sa,sc,ga,gc,hc,ls,lg⟩:=h;exact⟨h1,⟨Nat.le_trans h2 hb.size,Nat.le_trans h3 hb.size⟩,sa,sc,ga,gc,(hb.block B hl).trans hc,ls.below hb,lg.below hb⟩
theorem bQ.other {B C lbs lbg:Nat}{s:Sc}{W W':World}(h:bQ B lbs lbg s W)(hc:Chg C W W')(hne:B≠C)(hC:C<lbs)(hC2:C<lbg):bQ B lbs lbg s W':=by
 have hl:=h.lt;obtain⟨h1,⟨h2,h3⟩,sa,sc,ga,gc,hcs,ls,lg⟩:=h;exact⟨h1,⟨Nat.le_trans h2 hc.size,Nat.le_trans h3 hc.size⟩,sa,sc,ga,gc,(hc.block B hl hne).trans hcs,ls.other hc hC,lg.other hc hC2⟩
theorem bQ.ats {B lbs lbg:Nat}{s:Sc}{W:World}(h:bQ B lbs lbg s W):∃sa sc ga gc,At B 0 s.una W/\At B 1 s.next W/\At B 2 s.mark W/\At B 3 (.slice sa s.sk.length sc) W/\At B 4 (.slice ga s.ag.length gc) W/\ay lbs s.sk sa sc W/\ay lbg s.ag ga gc W:=by
 obtain⟨h1,h2,sa,sc,ga,gc,hc,ls,lg⟩:=h;have c:∀i v,(dR s sa sc ga gc)[i]? =some v->At B i v W:=fun i v hv=>⟨by rw[cell_of_row _ _ _ _ _ _ hc];exact hv,frozen_of_row _ _ _ _ _ hc⟩;exact⟨sa,sc,ga,gc,c 0 _ rfl,c 1 _ rfl,c 2 _ rfl,c 3 _ rfl,c 4 _ rfl,ls,lg⟩
theorem bQ.set {B lbs lbg:Nat}{s s':Sc}{W:World}(h:bQ B lbs lbg s W)(i:Nat)(v:Value)(hk:s'.sk=s.sk)(hg:s'.ag=s.ag)(he:∀sa sc ga gc,(dR s sa sc ga gc).setIfInBounds i v=dR s' sa sc ga gc):bQ B lbs lbg s' (W.setCell ⟨B,i,none⟩ v):=by
 obtain⟨h1,h2,sa,sc,ga,gc,hc,ls,lg⟩:=h;refine⟨h1,by simp[World.setCell];exact h2,sa,sc,ga,gc,?_,by rw[hk];exact ls.set h1.1 v,by rw[hg];exact lg.set h1.2 v⟩;rw[heap_setCell_same _ _ _ _ _ _ hc,he]
theorem bQ.setSk {B lbs lbs' lbg:Nat}{s:Sc}{W:World}(h:bQ B lbs lbg s W)(hB:B<lbs')(hs:lbs'<=W.heap.size){L:List Sp}{a:Option Addr}{cap:Nat}(hl:ay lbs' L a cap W):bQ B lbs' lbg { s with sk:=L } (W.setCell ⟨B,3,none⟩ (.slice a L.length cap)):=by
 obtain⟨h1,h2,sa,sc,ga,gc,hc,ls,lg⟩:=h;refine⟨⟨hB,h1.2⟩,by simp[World.setCell];exact⟨hs,h2.2⟩,a,cap,ga,gc,?_,hl.set hB _,lg.set h1.2 _⟩;rw[heap_setCell_same _ _ _ _ _ _ hc];rfl
theorem bQ.setAg {B lbs lbg lbg':Nat}{s:Sc}{W:World}(h:bQ B lbs lbg s W)(hB:B<lbg')(hs:lbg'<=W.heap.size){L:List Sp}{a:Option Addr}{cap:Nat}(hl:ay lbg' L a cap W):bQ B lbs lbg' { s with ag:=L } (W.setCell ⟨B,4,none⟩ (.slice a L.length cap)):=by
 obtain⟨h1,h2,sa,sc,ga,gc,hc,ls,lg⟩:=h;refine⟨⟨h1.1,hB⟩,by simp[World.setCell];exact⟨h2.1,hs⟩,sa,sc,a,cap,?_,ls.set h1.1 _,hl.set hB _⟩;rw[heap_setCell_same _ _ _ _ _ _ hc];rfl
theorem bQ.mono {B lbs lbg lbs' lbg':Nat}{s:Sc}{W:World}(h:bQ B lbs' lbg' s W)(h1:lbs<=lbs')(h2:lbg<=lbg')(hB:B<lbs)(hB2:B<lbg):bQ B lbs lbg s W:=by
 obtain⟨_,h4,sa,sc,ga,gc,hc,ls,lg⟩:=h;exact⟨⟨hB,hB2⟩,⟨Nat.le_trans h1 h4.1,Nat.le_trans h2 h4.2⟩,sa,sc,ga,gc,hc,ls.mono h1,lg.mono h2⟩
theorem bD.lt {B lb:Nat}{s:Sc}{W:World}(h:bD B lb s W):B<W.heap.size:=bQ.lt h
theorem bD.below {B lb:Nat}{s:Sc}{W W':World}(h:bD B lb s W)(hb:Below W.heap.size W W'):bD B lb s W':=bQ.below h hb
theorem bD.other {B C lb:Nat}{s:Sc}{W W':World}(h:bD B lb s W)(hc:Chg C W W')(hne:B≠C)(hC:C<lb):bD B lb s W':=bQ.other h hc hne hC hC
theorem bD.ats {B lb:Nat}{s:Sc}{W:World}(h:bD B lb s W):∃sa sc ga gc,At B 0 s.una W/\At B 1 s.next W/\At B 2 s.mark W/\At B 3 (.slice sa s.sk.length sc) W/\At B 4 (.slice ga s.ag.length gc) W/\ay lb s.sk sa sc W/\ay lb s.ag ga gc W:=bQ.ats h
theorem bD.set {B lb:Nat}{s s':Sc}{W:World}(h:bD B lb s W)(i:Nat)(v:Value)(hk:s'.sk=s.sk)(hg:s'.ag=s.ag)(he:∀sa sc ga gc,(dR s sa sc ga gc).setIfInBounds i v=dR s' sa sc ga gc):bD B lb s' (W.setCell ⟨B,i,none⟩ v):=bQ.set h i v hk hg he
theorem bD.setSk {B lb:Nat}{s:Sc}{W:World}(h:bD B lb s W){L:List Sp}{a:Option Addr}{cap:Nat}(hl:ay lb L a cap W):bD B lb { s with sk:=L } (W.setCell ⟨B,3,none⟩ (.slice a L.length cap)):=bQ.setSk h h.1.1 h.2.1.1 hl
theorem bD.setAg {B lb:Nat}{s:Sc}{W:World}(h:bD B lb s W){L:List Sp}{a:Option Addr}{cap:Nat}(hl:ay lb L a cap W):bD B lb { s with ag:=L } (W.setCell ⟨B,4,none⟩ (.slice a L.length cap)):=bQ.setAg h h.1.1 h.2.1.1 hl
theorem qm (w:World):Calls Tryz.prog 100 #[] w fun e w'=>e= .returned w.heap.size/\w'=w.alloc (.cells (dR uj none 0 none 0) 171):=by
 go_enter Tryz.func100,Tryz.ntmps100
 go_wp2;go_ret;exact⟨rfl,rfl⟩
theorem bD.new {w w':World}{lb:Nat}(h:w'=w.alloc (.cells (dR uj none 0 none 0) 171)):w.heap.size<w'.heap.size/\∀W,Below w'.heap.size w' W->w.heap.size<lb->lb<=W.heap.size->bD w.heap.size lb uj W:=by
 subst h;refine⟨by simp,fun W hb hlt hle=>⟨⟨hlt,hlt⟩,⟨hle,hle⟩,none,0,none,0,(hb.block _ (by simp)).trans (heap_alloc_new _ _),ay.nil _ _,ay.nil _ _⟩⟩
set_option maxHeartbeats 1000000 in
theorem ou (p:Addr) (caps:Array Value) (w:World) (R:Value->World->Prop) (h:Calls Tryz.prog 189 caps w fun e w'=>∃v,e= .returned v/\R v w') :
  Calls Tryz.prog 173 #[.pointer (some p),(0:Int),.func (.func 189) #[] caps] w fun e w'=>∃v,e= .returned v/\R v w':=by
 have HC:=hid h;clear h
 go_enter Tryz.func173,Tryz.ntmps173
 go_wp2_with fail;refine(HC.o).mono ?_;rintro e w1⟨v,rfl,hR⟩;have HR:=hid hR;clear hR;go_wp2;go_ret;exact⟨v,rfl,HR.o⟩
set_option maxHeartbeats 1000000 in
theorem nQ (p:Addr) (caps:Array Value) (w:World) (R:Value->World->Prop) (h:Calls Tryz.prog 174 caps w fun e w'=>∃v,e= .returned v/\R v w') :
  Calls Tryz.prog 173 #[.pointer (some p),(0:Int),.func (.func 174) #[] caps] w fun e w'=>∃v,e= .returned v/\R v w':=by
 have HC:=hid h;clear h
 go_enter Tryz.func173,Tryz.ntmps173
 go_wp2_with fail;refine(HC.o).mono ?_;rintro e w1⟨v,rfl,hR⟩;have HR:=hid hR;clear hR;go_wp2;go_ret;exact⟨v,rfl,HR.o⟩
set_option maxHeartbeats 1000000 in
theorem nR (p:Addr) (caps:Array Value) (w:World) (R:Value->World->Prop) (h:Calls Tryz.prog 214 caps w fun e w'=>∃v,e= .returned v/\R v w') :
  Calls Tryz.prog 173 #[.pointer (some p),(0:Int),.func (.func 214) #[] caps] w fun e w'=>∃v,e= .returned v/\R v w':=by
 have HC:=hid h;clear h
 go_enter Tryz.func173,Tryz.ntmps173
 go_wp2_with fail;refine(HC.o).mono ?_;rintro e w1⟨v,rfl,hR⟩;have HR:=hid hR;clear hR;go_wp2;go_ret;exact⟨v,rfl,HR.o⟩
set_option maxHeartbeats 1000000 in
theorem ku (p:Addr) (caps:Array Value) (w:World) (R:Value->World->Prop) (h:Calls Tryz.prog 211 caps w fun e w'=>∃v,e= .returned v/\R v w') :
  Calls Tryz.prog 194 #[.pointer (some p),.slice none 0 0,.func (.func 211) #[] caps] w fun e w'=>∃v,e= .returned v/\R v w':=by
 have HC:=hid h;clear h
 go_enter Tryz.func194,Tryz.ntmps194
 go_wp2_with fail;refine(HC.o).mono ?_;rintro e w1⟨v,rfl,hR⟩;have HR:=hid hR;clear hR;go_wp2;go_ret;exact⟨v,rfl,HR.o⟩
set_option maxHeartbeats 1000000 in
theorem nS (p:Addr) (caps:Array Value) (w:World) (R:Value->World->Prop) (h:Calls Tryz.prog 195 caps w fun e w'=>∃v,e= .returned v/\R v w') :
  Calls Tryz.prog 194 #[.pointer (some p),.slice none 0 0,.func (.func 195) #[] caps] w fun e w'=>∃v,e= .returned v/\R v w':=by
 have HC:=hid h;clear h
 go_enter Tryz.func194,Tryz.ntmps194
 go_wp2_with fail;refine(HC.o).mono ?_;rintro e w1⟨v,rfl,hR⟩;have HR:=hid hR;clear hR;go_wp2;go_ret;exact⟨v,rfl,HR.o⟩
set_option maxHeartbeats 1000000 in
theorem nT (p:Addr) (caps:Array Value) (w:World) (R:Value->World->Prop) (h:Calls Tryz.prog 143 caps w fun e w'=>∃v,e= .returned v/\R v w') :
  Calls Tryz.prog 142 #[.pointer (some p),(1:Int),.func (.func 143) #[] caps] w fun e w'=>∃v,e= .returned v/\R v w':=by
 have HC:=hid h;clear h
 go_enter Tryz.func142,Tryz.ntmps142
 go_wp2_with fail;refine(HC.o).mono ?_;rintro e w1⟨v,rfl,hR⟩;have HR:=hid hR;clear hR;go_wp2;go_ret;exact⟨v,rfl,HR.o⟩
set_option maxHeartbeats 1000000 in
theorem gI (p:Addr) (caps:Array Value) (w:World) (R:Value->World->Prop) (h:Calls Tryz.prog 201 caps w fun e w'=>∃v,e= .returned v/\R v w') :
  Calls Tryz.prog 142 #[.pointer (some p),(1:Int),.func (.func 201) #[] caps] w fun e w'=>∃v,e= .returned v/\R v w':=by
 have HC:=hid h;clear h
 go_enter Tryz.func142,Tryz.ntmps142
 go_wp2_with fail;refine(HC.o).mono ?_;rintro e w1⟨v,rfl,hR⟩;have HR:=hid hR;clear hR;go_wp2;go_ret;exact⟨v,rfl,HR.o⟩
end
section
open Go.RowKit Go.Shelf
theorem qo {lb:Nat}{L:List Sp}{a:Option Addr}{cap:Nat}{w:World}(h:ay lb L a cap w) :
  Calls Tryz.prog 180 #[.slice a L.length cap] w fun e w'=>∃v,e= .returned v/\aG w' w.heap.size v L/\Below w.heap.size w w':=by
 cases a with
 | none =>
  have hl:L=[]:=by
   rcases Nat.eq_zero_or_pos L.length with e | e
   ·exact List.eq_nil_of_length_eq_zero e
   obtain⟨_,_,e,_⟩:=h.1.cells e;cases e
  subst hl;refine(lQ cap w).mono ?_;rintro e w' ⟨he,rfl⟩;exact⟨_,he,aG.nil _ _,Below.refl _ _⟩
 | some ad =>
  have e:=h.2.2.2.1 ad rfl;rw[e]at h|-;exact kG _ _ cap L w h.1
theorem tJ (C B:Nat)(u:Int)(w:World)(hC:w.cell? C=some (B:Y))(hB:w.cell? B=some (u:Y)) :
  Calls Tryz.prog 189 #[C] w fun e w'=>e= .returned u/\w=w':=by
 go_enter Tryz.func189,Tryz.ntmps189
 go_wp2;go_ret;exact⟨rfl,rfl⟩
theorem qp (B lb:Nat)(s:Sc)(w:World)(h:bD B lb s w) :
  Calls Tryz.prog 156 #[B] w fun e w'=>e= .returned s.una/\Below w.heap.size w w':=by
 have hb:=bU w (.cells #[B] 93);obtain⟨sa,sc,ga,gc,c0,c1,c2,c3,c4,-,-⟩:=(h.below hb).ats;have HU:=hid (tJ w.heap.size B s.una (w.alloc (.cells #[B] 93)) (At.new (W:=w) (vs:= #[B]) _ rfl rfl).1 c0.1);have HB:=hid hb;clear hb c0 c1 c2 c3 c4 h
 go_enter Tryz.func156,Tryz.ntmps156
 go_wp2_with fail;refine(ou _ _ _ (fun v w'=>v=(s.una:Y)/\w.alloc (.cells #[B] 93)=w') (HU.mono (by rintro e w' ⟨he,hw⟩;exact⟨_,he,rfl,hw⟩))).mono ?_;rintro e w1⟨v,rfl,rfl,rfl⟩;go_wp2;go_ret;exact⟨rfl,HB.o⟩
theorem qq (C B:Nat)(u:Int)(w:World)(hC:w.cell? C=some (B:Y))(hB:w.cell? ⟨B,1,none⟩=some (u:Y)) :
  Calls Tryz.prog 174 #[C] w fun e w'=>e= .returned u/\w=w':=by
 go_enter Tryz.func174,Tryz.ntmps174
 go_wp2;go_ret;exact⟨rfl,rfl⟩
theorem ow (B lb:Nat)(s:Sc)(w:World)(h:bD B lb s w) :
  Calls Tryz.prog 129 #[B] w fun e w'=>e= .returned s.next/\Below w.heap.size w w':=by
 have hb:=bU w (.cells #[B] 93);obtain⟨sa,sc,ga,gc,c0,c1,c2,c3,c4,-,-⟩:=(h.below hb).ats;have HU:=hid (qq w.heap.size B s.next (w.alloc (.cells #[B] 93)) (At.new (W:=w) (vs:= #[B]) _ rfl rfl).1 c1.1);have HB:=hid hb;clear hb c0 c1 c2 c3 c4 h
 go_enter Tryz.func129,Tryz.ntmps129
 go_wp2_with fail;refine(nQ _ _ _ (fun v w'=>v=(s.next:Y)/\w.alloc (.cells #[B] 93)=w') (HU.mono (by rintro e w' ⟨he,hw⟩;exact⟨_,he,rfl,hw⟩))).mono ?_;rintro e w1⟨v,rfl,rfl,rfl⟩;go_wp2;go_ret;exact⟨rfl,HB.o⟩
theorem nU (C B lb:Nat)(s:Sc)(w:World)(hC:w.cell? C=some (B:Y))(h:bD B lb s w) :
  Calls Tryz.prog 211 #[C] w fun e w'=>∃v,e= .returned v/\aG w' w.heap.size v s.sk/\Below w.heap.size w w':=by
 obtain⟨sa,sc,ga,gc,-,-,-,⟨c3,-⟩,-,ls,-⟩:=h.ats;have da:=hid (qo ls);clear h ls
 go_enter Tryz.func211,Tryz.ntmps211
 go_wp2_with fail;refine(da.o).mono ?_;rintro e w1⟨v,rfl,hO,hb⟩;have HO:=hid hO;have HB:=hid hb;clear hO hb c3 hC da;go_wp2;go_ret;exact⟨v,rfl,HO.o,HB.o⟩
theorem mK (B lb:Nat)(s:Sc)(w:World)(h:bD B lb s w) :
  Calls Tryz.prog 190 #[B] w fun e w'=>∃v,e= .returned v/\aG w' w.heap.size v s.sk/\Below w.heap.size w w':=by
 have hb:=bU w (.cells #[B] 93);have HU:=hid (nU w.heap.size B lb s (w.alloc (.cells #[B] 93)) (At.new (W:=w) (vs:= #[B]) _ rfl rfl).1 (h.below hb));have HB:=hid hb;clear hb h
 go_enter Tryz.func190,Tryz.ntmps190
 go_wp2_with fail;refine(ku _ _ _ _ HU.o).mono ?_;rintro e w1⟨v,rfl,hO,hb⟩;have HO:=hid (hO.mono HB.size);have bu:=hid (HB.trans (hb.mono HB.size));clear hO hb HB HU;go_wp2;go_ret;exact⟨v,rfl,HO.o,bu.o⟩
set_option maxHeartbeats 1000000 in
theorem qr (T C B lb:Nat) (s:Sc) (tt:Int) (w:World) (hT:w.cell? T=some (tt:Y)) (hC:w.cell? C=some (B:Y)) (h:bD B lb s w) :
  Calls Tryz.prog 143 #[T,C] w fun e w'=>∃v,e= .returned v/\v=(s.sentE tt:Y)/\bD B lb (s.sent tt) w'/\Chg B w w':=by
 obtain⟨sa,sc,ga,gc,-,⟨c1,f1⟩,-,-,-,-,-⟩:=h.ats;have HS:=hid h;clear h;by_cases h1:s.next<=tt
 ·by_cases h2:tt<=1099511627776
  ·have hb:s.sentB tt=true:=by unfold Sc.sentB;rw[decide_eq_true_iff];exact⟨h1,h2⟩
   have HE:=hid (show s.sentE tt=0/\s.sent tt={ s with next:=tt } by unfold Sc.sentE Sc.sent;rw[if_pos hb,if_pos hb];exact⟨rfl,rfl⟩);clear hb
   go_enter Tryz.func143,Tryz.ntmps143
   go_wp2_with fail
   go_quiet (fail)
   go_wp2;go_ret;refine⟨_,rfl,by rw[HE.1];rfl,?_,?_⟩
   ·rw[HE.2];exact(show bD B lb s (w.drewN nq)from HS.below ⟨rfl,rfl,rfl,Nat.le_refl _,fun _ _=>rfl⟩).set 1 _ rfl rfl (fun _ _ _ _=>rfl)
   exact(show Chg B w (w.drewN nq)from⟨rfl,rfl,rfl,Nat.le_refl _,fun _ _ _=>rfl⟩).setCell 1 _
  have hb:s.sentB tt=false:=by unfold Sc.sentB;rw[decide_eq_false_iff_not];omega
  have HE:=hid (show s.sentE tt=140/\s.sent tt=s by unfold Sc.sentE Sc.sent;rw[hb];exact⟨rfl,rfl⟩);clear hb
  go_enter Tryz.func143,Tryz.ntmps143
  go_wp2_with fail
  go_quiet (fail)
  go_wp2;go_ret;exact⟨_,rfl,by rw[HE.1];rfl,by rw[HE.2];exact HS.below ⟨rfl,rfl,rfl,Nat.le_refl _,fun _ _=>rfl⟩,⟨rfl,rfl,rfl,Nat.le_refl _,fun _ _ _=>rfl⟩⟩
 have hb:s.sentB tt=false:=by unfold Sc.sentB;rw[decide_eq_false_iff_not];omega
 have HE:=hid (show s.sentE tt=140/\s.sent tt=s by unfold Sc.sentE Sc.sent;rw[hb];exact⟨rfl,rfl⟩);have hd:decide (tt<s.next)=true:=by rw[decide_eq_true_iff];omega
 clear hb
 go_enter Tryz.func143,Tryz.ntmps143
 go_wp2_with fail
 go_quiet (fail)
 go_wp2;go_ret;exact⟨_,rfl,by rw[HE.1];rfl,by rw[HE.2];exact HS.below ⟨rfl,rfl,rfl,Nat.le_refl _,fun _ _=>rfl⟩,⟨rfl,rfl,rfl,Nat.le_refl _,fun _ _ _=>rfl⟩⟩
set_option maxHeartbeats 1000000 in
theorem fZ (B lb:Nat) (s:Sc) (tt:Int) (w:World) (h:bD B lb s w) :
  Calls Tryz.prog 102 #[B,tt] w fun e w'=>e= .returned (s.sentE tt)/\bD B lb (s.sent tt) w'/\Chg B w w':=by
 have hb:=((Below.refl w.heap.size w).alloc (Nat.le_refl _) (.cells #[B] 93)).alloc (by simp) (.cells #[tt] 3);have HU:=hid (qr (w.heap.size+1) w.heap.size B lb s tt ((w.alloc (.cells #[B] 93)).alloc (.cells #[tt] 3)) (At.new (W:=w.alloc (.cells #[B] 93)) (vs:= #[tt]) _ (by simp) rfl).1 ((At.new (W:=w) (vs:= #[B]) _ rfl rfl).alloc _).1 (h.below hb));have HB:=hid (Chg.of_below (B:=B) hb);clear hb h
 go_enter Tryz.func102,Tryz.ntmps102
 go_wp2_with fail;refine(nT _ _ _ _ HU.o).mono ?_;rintro e w1⟨v,rfl,rfl,hS,hc⟩;have HS:=hid hS;have HC:=hid (HB.trans hc);clear hS hc HB HU;go_wp2;go_ret;exact⟨rfl,HS.o,HC.o⟩
set_option maxHeartbeats 1000000 in
theorem kw (B lb:Nat) (s:Sc) (w:World) (h:bD B lb s w) :
  Calls Tryz.prog 85 #[B] w fun e w'=>e= .returned (.tuple #[])/\bD B lb s.timeout w'/\Chg B w w':=by
 obtain⟨sa,sc,ga,gc,-,⟨c1,f1⟩,⟨c2,f2⟩,⟨c3,f3⟩,⟨c4,f4⟩,-,-⟩:=h.ats;have HS:=hid h;clear h
 go_enter Tryz.func85,Tryz.ntmps85
 go_wp2_with fail
 go_end0
 refine⟨rfl,?_,(((Chg.refl B w).setCell 3 _).setCell 4 _).setCell 2 _⟩;exact((HS.setSk (ay.nil lb w)).setAg (ay.nil lb _)).set 2 _ rfl rfl (fun _ _ _ _=>rfl)
end
section
set_option maxRecDepth 100000
open Go.RowKit Go.Shelf
theorem i6 (B lb:Nat)(s:Sc)(x:Sp)(w:World)(h:bD B lb s w) :
  Calls Tryz.prog 150 #[B,.agg #[x.1,x.2]] w fun e w'=>e= .returned (s.inB x)/\Below w.heap.size w w':=by
 obtain⟨x1,x2⟩:=x;obtain⟨sa,sc,ga,gc,-,⟨c1,-⟩,-,-,-,-,-⟩:=h.ats;have hl:=h.lt;have hb:=bU w (.cells #[x1,x2] 92);have d1:=(hb.cell (p:=⟨B,1,none⟩) hl).trans c1;have HB:=hid hb;clear h hb c1;by_cases h1:0<=x1
 ·by_cases h2:x1<x2
  ·by_cases h3:x2<=s.next
   ·have HR:=hid (show s.inB (x1,x2)=true by rw[Sc.inB_iff];exact⟨h1,h2,h3⟩);rw[HR.o]
    go_enter Tryz.func150,Tryz.ntmps150
    go_wp2_with fail
    go_quiet (fail)
    go_wp2;go_ret;exact⟨rfl,⟨HB.os,HB.tape,HB.output,HB.size,HB.block⟩⟩
   have HR:=hid (show s.inB (x1,x2)=false by rw[<-Bool.not_eq_true,Sc.inB_iff];rintro⟨-,-,h⟩;exact h3 h);rw[HR.o];have hd:decide (x2<=s.next)=false:=by rw[decide_eq_false_iff_not];exact h3
   go_enter Tryz.func150,Tryz.ntmps150
   go_wp2_with fail
   go_quiet (fail)
   go_wp2;go_ret;exact⟨rfl,⟨HB.os,HB.tape,HB.output,HB.size,HB.block⟩⟩
  have HR:=hid (show s.inB (x1,x2)=false by rw[<-Bool.not_eq_true,Sc.inB_iff];rintro⟨-,h,-⟩;exact h2 h);rw[HR.o];have hd:decide (x1<x2)=false:=by rw[decide_eq_false_iff_not];exact h2
  go_enter Tryz.func150,Tryz.ntmps150
  go_wp2_with fail
  go_quiet (fail)
  go_wp2;go_ret;exact⟨rfl,⟨HB.os,HB.tape,HB.output,HB.size,HB.block⟩⟩
 have HR:=hid (show s.inB (x1,x2)=false by rw[<-Bool.not_eq_true,Sc.inB_iff];rintro⟨h,-,-⟩;exact h1 h);rw[HR.o];have hd:decide (0<=x1)=false:=by rw[decide_eq_false_iff_not];exact h1
 go_enter Tryz.func150,Tryz.ntmps150
 go_wp2_with fail
 go_quiet (fail)
 go_wp2;go_ret;exact⟨rfl,⟨HB.os,HB.tape,HB.output,HB.size,HB.block⟩⟩
structure Ev (T C L R B lbs lbg:Nat)(s:Sc)(una:Int)(la:Option Addr)(lc:Nat)(ls:List Sp)(w W:World):Prop where
 cT:W.cell? T=some (una:Y)
 cC:W.cell? C=some (B:Y)
 cL:W.cell? L=some (.slice la ls.length lc)
 r0:∃v,At R 0 v W
 r1:∃v,At R 1 v W
 hs:bQ B lbs lbg s W
 hl:vw B la ls W
 chg:Chg B w W
 ne:T≠B/\C≠B/\L≠B/\R≠B
 rw_:w.heap.size<=R
theorem Ev.to {T C L R B lbs lbg lbs' lbg':Nat}{s s':Sc}{una:Int}{la:Option Addr}{lc:Nat}{ls:List Sp}{w W W':World}(h:Ev T C L R B lbs lbg s una la lc ls w W)(hc:Chg B W W')(hs:bQ B lbs' lbg' s' W'):Ev T C L R B lbs' lbg' s' una la lc ls w W':=by
 obtain⟨n1,n2,n3,n4⟩:=h.ne;obtain⟨v0,h0⟩:=h.r0;obtain⟨v1,h1⟩:=h.r1;exact⟨bg h.cT hc n1,bg h.cC hc n2,bg h.cL hc n3,⟨v0,mB h0 hc n4⟩,⟨v1,mB h1 hc n4⟩,hs,h.hl.chg hc,h.chg.trans hc,h.ne,h.rw_⟩
theorem Ev.below {T C L R B lbs lbg:Nat}{s:Sc}{una:Int}{la:Option Addr}{lc:Nat}{ls:List Sp}{w W W':World}(h:Ev T C L R B lbs lbg s una la lc ls w W)(hb:Below W.heap.size W W'):Ev T C L R B lbs lbg s una la lc ls w W':=h.to (Chg.of_below hb) (h.hs.below hb)
theorem Ev.drewN {T C L R B lbs lbg:Nat}{s:Sc}{una:Int}{la:Option Addr}{lc:Nat}{ls:List Sp}{w W:World}(h:Ev T C L R B lbs lbg s una la lc ls w W)(n:Nat):Ev T C L R B lbs lbg s una la lc ls w (W.drewN n):=h.below ⟨rfl,rfl,rfl,Nat.le_refl _,fun _ _=>rfl⟩
theorem Ev.drew {T C L R B lbs lbg:Nat}{s:Sc}{una:Int}{la:Option Addr}{lc:Nat}{ls:List Sp}{w W:World}(h:Ev T C L R B lbs lbg s una la lc ls w W):Ev T C L R B lbs lbg s una la lc ls w W.drew:=h.below (Below.refl _ _).drew
theorem Ev.start {T C L B lb:Nat}{s:Sc}{una:Int}{la:Option Addr}{lc:Nat}{ls:List Sp}{w:World}(cT:w.cell? T=some (una:Y))(cC:w.cell? C=some (B:Y))(cL:w.cell? L=some (.slice la ls.length lc))
  (ne:T≠B/\C≠B/\L≠B)(hs:bD B lb s w)(hl:vw B la ls w):Ev T C L w.heap.size B lb lb s una la lc ls w (w.alloc (.cells #[(0:Int),(0:Int)] 187)):=by
 have hb:=bU w (.cells #[(0:Int),(0:Int)] 187);have hc:Chg B w (w.alloc (.cells #[(0:Int),(0:Int)] 187)):=Chg.of_below hb;exact⟨bg cT hc ne.1,bg cC hc ne.2.1,bg cL hc ne.2.2,⟨_,At.new _ rfl rfl⟩,⟨_,At.new _ rfl rfl⟩,hs.below hb,hl.chg hc,hc,⟨ne.1,ne.2.1,ne.2.2,by have:=hs.lt;omega⟩,Nat.le_refl _⟩
theorem jV (W:World)(n:Nat):Below W.heap.size W (W.drewN n):=⟨rfl,rfl,rfl,Nat.le_refl _,fun _ _=>rfl⟩
set_option maxHeartbeats 4000000 in
theorem ox (T C L B lb:Nat) (s:Sc) (una:Int) (la:Option Addr) (lc:Nat) (ls:List Sp) (w:World) (ok:s.Ok) (cT:w.cell? T=some (una:Y)) (cC:w.cell? C=some (B:Y)) (cL:w.cell? L=some (.slice la ls.length lc))
  (ne:T≠B/\C≠B/\L≠B) (hs:bD B lb s w) (hl:vw B la ls w) (hlen:(s.sk++ls).length<=1099511627776) :
  Calls Tryz.prog 149 #[T,C,L] w fun e w'=>∃v,e= .returned v/\v= .agg #[(s.ackN una ls),(s.ackE una ls)]/\((s.acked una ls=s/\Below w.heap.size w w')\/bD B w.heap.size (s.acked una ls) w')/\Chg B w w':=by
 have al:=hid ok;have en:=hid hlen;have c7:=hid (Ev.start cT cC cL ne hs hl);have b8:=hid hs;have ch:=hid (show B<w.heap.size+1 by have:=hs.lt;omega);have bn:=hid (show dH s.sk=aC s.sk by unfold dH;rw[if_pos ok.csk]);have er:=hid (show IntKind.i64.wrap (s.una+aC s.sk)=s.una+aC s.sk from IntWalk.i64_in _ (by have h1:=ok.u0;have h2:=ok.un;have h3:=ok.n40;have h4:=aL ok.csk;omega));have es:=hid (show C<w.heap.size from block_lt_of_cell cC);clear ok hlen cT cC cL ne hs hl
 go_enter Tryz.func149,Tryz.ntmps149
 go_wp2_with fail;obtain⟨R,hR⟩:∃R,R=w.heap.size:=⟨_,rfl⟩;rw[<-hR]at c7 ch|-;have a7:=hid (bU w (.cells #[(0:Int),(0:Int)] 187));generalize w.alloc (.cells #[(0:Int),(0:Int)] 187)=W0 at c7 a7|-;clear hR;have HE:=c7;clear c7;obtain⟨sa,sc,ga,gc,⟨c0,f0⟩,⟨c1,f1⟩,-,-,-,-,-⟩:=HE.hs.ats;have cT:=HE.cT;have cC:=HE.cC;obtain⟨v0,r0,q0⟩:=HE.r0;obtain⟨v1,r1,q1⟩:=HE.r1
 rcases Int.lt_or_le una 0 with hu | hu
 ·have hd:decide (una<0)=true:=by rw[decide_eq_true_iff];omega
  have b0:=hid (show s.ackB una ls=false from by unfold Sc.ackB;rw[show decide (0<=una/\una<=s.next)=false by rw[decide_eq_false_iff_not];omega];rfl);go_wp2_with fail
  go_quiet (fail)
  go_wp2_with fail;have hev:=HE.drewN nq;have am:=a7.trans ((jV W0 nq).mono a7.size);obtain⟨x0,hx0⟩:=hev.r0;obtain⟨x1,hx1⟩:=hev.r1;have d0:=((hx0.set (0:Int)).other ⟨R,1,none⟩ (140:Int) (by intro e;cases e)).1;have d1:=((hx1.other ⟨R,0,none⟩ (0:Int) (by intro e;cases e)).set (140:Int)).1;have a9:=(am.setCell (p:=⟨R,0,none⟩) hev.rw_ (0:Int)).setCell (p:=⟨R,1,none⟩) hev.rw_ (140:Int);refine bodyPost_ret (v:=.agg #[(0:Int),(140:Int)]) (by simp[results,Tryz.results149,go_sem,d0,d1]) rfl ⟨_,rfl,by unfold Sc.ackN Sc.ackE;rw[b0.o];rfl,Or.inl ⟨by simp[Sc.acked,b0.o],a9⟩,Chg.of_below a9⟩
 rcases Int.lt_or_le s.next una with hv | hv
 ·have b0:=hid (show s.ackB una ls=false from by unfold Sc.ackB;rw[show decide (0<=una/\una<=s.next)=false by rw[decide_eq_false_iff_not];omega];rfl);go_wp2_with fail
  go_quiet (fail)
  go_wp2_with fail;have hev:=HE.drewN nq;have am:=a7.trans ((jV W0 nq).mono a7.size);obtain⟨x0,hx0⟩:=hev.r0;obtain⟨x1,hx1⟩:=hev.r1;have d0:=((hx0.set (0:Int)).other ⟨R,1,none⟩ (140:Int) (by intro e;cases e)).1;have d1:=((hx1.other ⟨R,0,none⟩ (0:Int) (by intro e;cases e)).set (140:Int)).1;have a9:=(am.setCell (p:=⟨R,0,none⟩) hev.rw_ (0:Int)).setCell (p:=⟨R,1,none⟩) hev.rw_ (140:Int);refine bodyPost_ret (v:=.agg #[(0:Int),(140:Int)]) (by simp[results,Tryz.results149,go_sem,d0,d1]) rfl ⟨_,rfl,by unfold Sc.ackN Sc.ackE;rw[b0.o];rfl,Or.inl ⟨by simp[Sc.acked,b0.o],a9⟩,Chg.of_below a9⟩
 go_wp2_with fail
 go_quiet (fail)
 replace HE:=hid (HE.drewN nq);replace a7:=hid (a7.trans ((jV W0 nq).mono a7.size));generalize W0.drewN nq=W1 at HE a7|-;clear c0 f0 c1 f1 cT cC r0 q0 r1 q1;have cL:=HE.cL;have eu:=HE.hl.1.small;go_wp2_with fail;clear cL
 go_loopg [20] ls.length (fun g kv wr=>∃(k:Nat),kv=((k:Int):Y)/\g+k=ls.length/\Ev T C L R B lb lb s una la lc ls w wr/\Below w.heap.size w wr/\∀x∈ls.take k,s.inB x=true)
 case atStart=>exact⟨0,rfl,rfl,HE.o,a7.o,fun x hx=>by simp at hx⟩
 case round =>
  clear HE a7;obtain⟨k,rfl,hg,hE,am,hin⟩:=hrel;have HE:=hid hE;have cl:=hid hin;have a7:=hid am;clear hE hin am;by_cases hk:k<ls.length
  ·obtain⟨fv,lo,rfl,ev,hcs⟩:=HE.hl.1.cells (by omega);obtain⟨d0,d1⟩:=hcs k hk;clear hcs;have dc:=hid (List.take_succ_eq_append_getElem hk);have dk:=hid (List.getElem_mem hk);have ec:(k:Int)<(ls.length:Int):=by omega
   generalize ls[k]=x at d0 d1 dc dk;obtain⟨x1,x2⟩:=x;dsimp only at d0 d1;have cC:=(HE.below (bU wr (.cells #[x1,x2] 92))).cC;go_wp2_with fail;clear d0 d1 cC;replace HE:=hid (HE.below (bU wr (.cells #[x1,x2] 92)));replace a7:=hid (a7.alloc a7.size (.cells #[x1,x2] 92));refine(i6 B lb s (x1,x2) _ HE.hs).mono ?_;rintro e w2⟨rfl,hb⟩;replace HE:=hid (HE.below hb);replace a7:=hid (a7.trans (hb.mono a7.size));clear hb;have cC:=HE.cC;obtain⟨v0,r0,q0⟩:=HE.r0;obtain⟨v1,r1,q1⟩:=HE.r1
   cases hib:s.inB (x1,x2)with
   | false =>
    have b0:=hid (show s.ackB una ls=false by rw[<-Bool.not_eq_true,Sc.ackB_iff];rintro⟨-,h⟩;have:=h _ dk.o;rw[hib]at this;cases this);clear hib;go_wp2_with fail;have hev:=HE.o;have am:=a7.o;obtain⟨x0,hx0⟩:=hev.r0;obtain⟨x1,hx1⟩:=hev.r1;have d0:=((hx0.set (0:Int)).other ⟨R,1,none⟩ (140:Int) (by intro e;cases e)).1;have d1:=((hx1.other ⟨R,0,none⟩ (0:Int) (by intro e;cases e)).set (140:Int)).1;have a9:=(am.setCell (p:=⟨R,0,none⟩) hev.rw_ (0:Int)).setCell (p:=⟨R,1,none⟩) hev.rw_ (140:Int);refine bodyPost_ret (v:=.agg #[(0:Int),(140:Int)]) (by simp[results,Tryz.results149,go_sem,d0,d1]) rfl ⟨_,rfl,by unfold Sc.ackN Sc.ackE;rw[b0.o];rfl,Or.inl ⟨by simp[Sc.acked,b0.o],a9⟩,Chg.of_below a9⟩
   | true =>
    go_wp2_with fail
    go_roundg (gk-1)
    case measure=>omega
    case rel=>exact⟨k+1,by go_num,by omega,HE.o,a7.o,fun y hy=>by rw[dc.o]at hy;rcases List.mem_append.1 hy with h | h;exact cl.o y h;rw[List.mem_singleton.1 h];exact hib⟩
  clear a7;obtain rfl:k=ls.length:=by omega
  have ac:=hid (show s.ackB una ls=true by rw[Sc.ackB_iff];refine⟨⟨hu,hv⟩,?_⟩;have h:=cl.o;rw[List.take_length]at h;exact h);clear cl;go_wp2_with fail;obtain⟨sa,sc,ga,gc,k0,k1,k2,k3,k4,a6,bx⟩:=HE.hs.ats;refine bC (fun W:World=>W.cell? C=some (B:Y)/\W.cell? B=some (s.una:Y)/\W.cell? ⟨B,3,none⟩=some (.slice sa s.sk.length sc)) (⟨HE.cC,k0.1,k3.1⟩) fun hZ=>?_;clear bx;replace HE:=hid HE.drew;obtain⟨y1,hy1⟩:∃y1,y1=wr.drew:=⟨_,rfl⟩;replace a6:SpAt y1 y1.heap.size sa s.sk:=by rw[hy1];exact a6.1.below (Below.refl _ _).drew
  rw[<-hy1]at HE hZ|-;clear hy1 k0 k1 k2 k3 k4;refine aB 0 4 1 5 ?_;refine aB 2 6 3 7 ?_;have a3:=hZ;refine aX 8 fun Kq hKq=> ?_;go_simp;refine(du y1 y1.heap.size sa sc s.sk a6 (Nat.le_refl _)).mono ?_;rintro e y2⟨rfl,hb⟩;have hk3:y2.cell? C=some (B:Y)/\y2.cell? B=some (s.una:Y)/\y2.cell? ⟨B,3,none⟩=some (.slice sa s.sk.length sc):=⟨(hb.cell (p:=⟨C,0,none⟩) (block_lt_of_cell a3.1)).trans a3.1,(hb.cell (p:=⟨B,0,none⟩) (block_lt_of_cell a3.2.1)).trans a3.2.1,(hb.cell (p:=⟨B,3,none⟩) (block_lt_of_cell a3.2.2)).trans a3.2.2⟩;replace HE:=hid (HE.below hb);clear hb a6 a3;go_simp;refine hKq.out _ _ (hk3) ?_;clear hKq Kq hZ;refine fun hZ=>aT ?_
  skip
  refine aO 9 ?_;rw[bn.o,er.o];refine aO 10 ?_;refine az ?_ _;clear hZ hk3;obtain⟨sa,sc,ga,gc,⟨k0,g0⟩,⟨k1,-⟩,-,-,-,-,-⟩:=HE.hs.ats;have cC:=HE.cC;have cT:=HE.cT;go_wp2_with fail
  go_region
  replace HE:=hid (HE.to (((Chg.refl B y2).setCell 0 (max s.una una:Int)).drew) ((HE.hs.set (s':={ s with una:=max s.una una }) 0 (max s.una una:Int) rfl rfl (fun _ _ _ _=>rfl)).below (Below.refl _ _).drew));generalize (y2.setCell B (max s.una una:Int)).drew=y3 at HE|-;clear k0 g0 k1 cC cT;obtain⟨u,hu'⟩:∃u,u=max s.una una:=⟨_,rfl⟩;rw[<-hu']at HE|-;have bc:=hid hu';have cn:=hid (show 0<=u by rw[hu'];omega);clear hu';go_wp2_with fail;have f5:∃v,At R 0 v y3:=HE.r0;obtain⟨vr,dl⟩:=f5;have aF:=dl.lt;clear dl vr;have hK:y3.cell? C=some (B:Y)/\y3.cell? B=some (.int .i64 u)/\y3.cell? L=some (.slice la ls.length lc):=by obtain⟨_,_,_,_,⟨k0,-⟩,-,-,-,-,-,-⟩:=HE.hs.ats;exact⟨HE.cC,k0,HE.cL⟩
  refine bC (fun W:World=>W.cell? C=some (B:Y)/\W.cell? B=some (.int .i64 u)/\W.cell? L=some (.slice la ls.length lc)) (hK) fun hZ=>?_;clear hK;replace HE:=hid HE.drew;replace aF:R<y3.drew.heap.size:=aF;obtain⟨y4,dn⟩:∃y4,y4=y3.drew:=⟨_,rfl⟩;rw[<-dn]at HE hZ aF|-;clear dn;refine aB 0 1 5 9 ?_;refine aB 2 6 3 7 ?_;refine aO 4 ?_;obtain⟨sa,sc,ga,gc,-,-,-,⟨k3,g3⟩,-,a6,-⟩:=HE.hs.ats;dsimp only at k3 a6;refine aX 8 fun Kq hKq=> ?_;go_simp;refine hKq.out _ _ (hZ) ?_;clear hKq Kq hZ;refine fun hZ=>aT ?_;refine aX 10 fun Kq hKq=> ?_;go_simp;have hb:=bU y4 (.cells #[.slice sa s.sk.length sc,.slice la ls.length lc] 41)
  have hlat:i5 y4.heap.size [(sa,sc,s.sk),(la,lc,ls)] (y4.alloc (.cells #[.slice sa s.sk.length sc,.slice la ls.length lc] 41)):=⟨by simp,fun i hi=>by
   rcases(show i=0\/i=1 by simp at hi;omega)with rfl | rfl
   ·exact⟨(At.new (W:=y4) (vs:= #[.slice sa s.sk.length sc,.slice la ls.length lc]) _ rfl rfl).1,(a6.1.below hb).mono hb.size⟩
   exact⟨(At.new (W:=y4) (vs:= #[.slice sa s.sk.length sc,.slice la ls.length lc]) _ rfl rfl).1,(HE.hl.1.below hb).mono hb.size⟩⟩
  have hK:(y4.alloc (.cells #[.slice sa s.sk.length sc,.slice la ls.length lc] 41)).cell? C=some (B:Y)/\(y4.alloc (.cells #[.slice sa s.sk.length sc,.slice la ls.length lc] 41)).cell? B=some (.int .i64 u)/\(y4.alloc (.cells #[.slice sa s.sk.length sc,.slice la ls.length lc] 41)).cell? L=some (.slice la ls.length lc):=by obtain⟨_,_,_,_,⟨k0,-⟩,-,-,-,-,-,-⟩:=(HE.below hb).hs.ats;exact⟨(HE.below hb).cC,k0,(HE.below hb).cL⟩
  replace HE:=hid (HE.below hb);replace aF:=Nat.lt_of_lt_of_le aF hb.size;generalize y4.alloc (.cells #[.slice sa s.sk.length sc,.slice la ls.length lc] 41)=y5 at HE hlat hK aF|-;have cF:=hid hlat;clear hb hlat a6 k3 g3;refine hKq.out _ _ (hK) ?_;clear hKq Kq hZ;refine fun hZ=>aT ?_;clear hK;have ax:=hid (show cm [(sa,sc,s.sk),(la,lc,ls)]=s.sk++ls by simp[cm]);refine aX 11 fun Kq hKq=> ?_;go_simp;refine(fY u _ 2 2 [(sa,sc,s.sk),(la,lc,ls)] y5 rfl cF.o cn.o (by rw[ax.o];exact al.okl (Sc.ackB_iff.1 ac.o).2) (by rw[ax.o];exact en.o) (by omega)).mono ?_;rintro e y6⟨v,rfl,hO,hb⟩;rw[ax.o,bc.o,show bF (max s.una una) (s.sk++ls)=(s.ackS una ls).sk from rfl]at hO;obtain⟨va,vc,rfl,-⟩:=hO.val;have hls:=(ay.own hO (bR (al.ack_sk ac.o).1) (show R+1<=y5.heap.size by omega)).1;have b9:=hid hls;have hK:y6.cell? C=some (B:Y)/\y6.cell? B=some (.int .i64 u)/\y6.cell? L=some (.slice la ls.length lc):=by obtain⟨_,_,_,_,⟨k0,-⟩,-,-,-,-,-,-⟩:=(HE.below hb).hs.ats;exact⟨(HE.below hb).cC,k0,(HE.below hb).cL⟩
  replace HE:=hid (HE.below hb);replace aF:=Nat.lt_of_lt_of_le aF hb.size;clear hO hb hls cF ax;go_simp;refine hKq.out _ _ (hK) ?_;clear hKq Kq hZ;refine fun hZ=>aT ?_;clear hK;obtain⟨sk,hsk⟩:∃sk,sk=(s.ackS una ls).sk:=⟨_,rfl⟩;rw[<-hsk]at b9|-;have c8:=hid hsk;clear hsk;obtain⟨f6,f7,f8,f9,-,-,-,⟨k3,g3⟩,-,-,-⟩:=HE.hs.ats;refine aK 12 13 ?_;refine aX 14 fun Kq hKq=> ?_;go_simp;clear k3 g3;have hch:=(Chg.refl B y6).setCell 3 (.slice va sk.length vc);have hne:=HE.ne.2.2.2;replace HE:=hid (HE.to hch (HE.hs.setSk (lbs':=R+1) ch.o (by omega) b9.o));have ak:=hch.size;generalize y6.setCell ⟨B,3,none⟩ (.slice va sk.length vc)=y7 at HE hch ak|-;replace aF:=Nat.lt_of_lt_of_le aF ak;have hK:y7.cell? C=some (B:Y)/\y7.cell? B=some (.int .i64 u)/\y7.cell? L=some (.slice la ls.length lc):=by obtain⟨_,_,_,_,⟨k0,-⟩,-,-,-,-,-,-⟩:=HE.hs.ats;exact⟨HE.cC,k0,HE.cL⟩
  clear hch ak b9;refine hKq.out _ _ (hK) ?_;clear hKq Kq hZ;refine fun hZ=>aT ?_;clear hK;refine az ?_ _;clear hZ;go_wp2_with fail;obtain⟨sa,sc,ga,gc,⟨k0,-⟩,-,-,⟨k3,-⟩,-,-,-⟩:=HE.hs.ats;dsimp only at k0 k3;refine bC (fun W:World=>W.cell? C=some (B:Y)/\W.cell? B=some (.int .i64 u)/\W.cell? ⟨B,3,none⟩=some (.slice sa sk.length sc)) (⟨HE.cC,k0,k3⟩) fun hZ=>?_;clear k0 k3;replace HE:=hid HE.drew;replace aF:R<y7.drew.heap.size:=aF;obtain⟨y8,ds⟩:∃y8,y8=y7.drew:=⟨_,rfl⟩;rw[<-ds]at HE hZ aF|-;clear ds;refine aB 0 1 5 11 ?_;refine aB 2 6 12 3 ?_;refine aB 7 13 4 14 ?_;obtain⟨cs,dT,ga,gc,-,-,-,⟨k3,-⟩,⟨k4,g4⟩,a6,bx⟩:=HE.hs.ats;dsimp only at k3 k4 a6 bx;obtain⟨rfl,rfl⟩:sa=cs/\sc=dT:=by have:=hZ.2.2.symm.trans k3;injection this with e;injection e with e1 e2 e3;exact⟨e1,e3⟩
  clear k3;refine aX 8 fun Kq hKq=> ?_;go_simp;refine hKq.out _ _ (hZ) ?_;clear hKq Kq hZ;refine fun hZ=>aT ?_;refine aX 9 fun Kq hKq=> ?_;go_simp;have hb:=bU y8 (.cells #[.slice ga s.ag.length gc] 41)
  have hlat:i5 y8.heap.size [(ga,gc,s.ag)] (y8.alloc (.cells #[.slice ga s.ag.length gc] 41)):=⟨by simp,fun i hi=>by
   obtain rfl:i=0:=by simp at hi;omega
   exact⟨(At.new (W:=y8) (vs:= #[.slice ga s.ag.length gc]) _ rfl rfl).1,(bx.1.below hb).mono hb.size⟩⟩
  have hK:(y8.alloc (.cells #[.slice ga s.ag.length gc] 41)).cell? C=some (B:Y)/\(y8.alloc (.cells #[.slice ga s.ag.length gc] 41)).cell? B=some (.int .i64 u)/\(y8.alloc (.cells #[.slice ga s.ag.length gc] 41)).cell? ⟨B,3,none⟩=some (.slice sa sk.length sc):=⟨(hb.cell (p:=⟨C,0,none⟩) (block_lt_of_cell hZ.1)).trans hZ.1,(hb.cell (p:=⟨B,0,none⟩) (block_lt_of_cell hZ.2.1)).trans hZ.2.1,(hb.cell (p:=⟨B,3,none⟩) (block_lt_of_cell hZ.2.2)).trans hZ.2.2⟩;replace a6:=a6.below hb;replace HE:=hid (HE.below hb);replace aF:=Nat.lt_of_lt_of_le aF hb.size;generalize y8.alloc (.cells #[.slice ga s.ag.length gc] 41)=y9 at HE hlat hK aF a6|-;have cF:=hid hlat;clear hb hlat bx k4 g4;refine hKq.out _ _ (hK) ?_;clear hKq Kq hZ;refine fun hZ=>aT ?_;clear hK;have ax:=hid (show cm [(ga,gc,s.ag)]=s.ag by simp[cm]);have ba:=hid (cN (low:=u) (L:=s.ag) cn.o (bO al.cag)).1;have c9:=hid (show ae sk=true by rw[c8.o];exact(al.ack_sk ac.o).1);refine aX 10 fun Kq hKq=> ?_;go_simp;refine(fY u _ 1 1 [(ga,gc,s.ag)] y9 rfl cF.o cn.o (by rw[ax.o];exact bO al.cag) (by rw[ax.o];exact bR al.cag) (by omega)).mono ?_;rintro e y10⟨v,rfl,hO,hb⟩;rw[ax.o]at hO;obtain⟨vb,vd,rfl,-⟩:=hO.val;have hls:=(ay.own hO (bR ba.o) (Nat.le_refl _)).1;have hK:y10.cell? C=some (B:Y)/\y10.cell? B=some (.int .i64 u)/\y10.cell? ⟨B,3,none⟩=some (.slice sa sk.length sc):=⟨(hb.cell (p:=⟨C,0,none⟩) (block_lt_of_cell hZ.1)).trans hZ.1,(hb.cell (p:=⟨B,0,none⟩) (block_lt_of_cell hZ.2.1)).trans hZ.2.1,(hb.cell (p:=⟨B,3,none⟩) (block_lt_of_cell hZ.2.2)).trans hZ.2.2⟩;replace a6:=a6.below hb;replace HE:=hid (HE.below hb);replace aF:=Nat.lt_of_lt_of_le aF hb.size;clear hO hb cF ax;go_simp;refine hKq.out _ _ (hK) ?_;clear hKq Kq hZ;refine fun hZ=>aT ?_;clear hK;refine aX 15 fun Kq hKq=> ?_;go_simp;refine(gH y10 y10.heap.size vb sa vd sc (bF u s.ag) sk _ _ hls.1 a6.1 a6.2.1 (Nat.le_refl _) ba.o c9.o).mono ?_;rintro e b3⟨v,rfl,hO,hb⟩;rw[bc.o,c8.o,show dI (bF (max s.una una) s.ag) (s.ackS una ls).sk=(s.ackS una ls).ag from rfl]at hO;obtain⟨va,vc,rfl,-⟩:=hO.val;have b9:=hid (ay.own hO (bR (al.ack_ag ac.o).1) (show R+1<=y10.heap.size by omega)).1;have hK:b3.cell? C=some (B:Y)/\b3.cell? B=some (.int .i64 u)/\b3.cell? ⟨B,3,none⟩=some (.slice sa sk.length sc):=⟨(hb.cell (p:=⟨C,0,none⟩) (block_lt_of_cell hZ.1)).trans hZ.1,(hb.cell (p:=⟨B,0,none⟩) (block_lt_of_cell hZ.2.1)).trans hZ.2.1,(hb.cell (p:=⟨B,3,none⟩) (block_lt_of_cell hZ.2.2)).trans hZ.2.2⟩;replace HE:=hid (HE.below hb);replace aF:=Nat.lt_of_lt_of_le aF hb.size;clear hO hb hls a6 ba;go_simp;refine hKq.out _ _ (hK) ?_;clear hKq Kq hZ;refine fun hZ=>aT ?_;clear hK;refine aK 16 17 ?_;obtain⟨ag,hag⟩:∃ag,ag=(s.ackS una ls).ag:=⟨_,rfl⟩;rw[<-hag]at b9|-;have fa:=hid hag;clear hag;obtain⟨f6,f7,f8,f9,-,-,-,-,⟨k4,g4⟩,-,-⟩:=HE.hs.ats;refine aX 18 fun Kq hKq=> ?_;go_simp;clear k4 g4;have hch:=(Chg.refl B b3).setCell 4 (.slice va ag.length vc);have hK:(b3.setCell ⟨B,4,none⟩ (.slice va ag.length vc)).cell? C=some (B:Y)/\(b3.setCell ⟨B,4,none⟩ (.slice va ag.length vc)).cell? B=some (.int .i64 u)/\(b3.setCell ⟨B,4,none⟩ (.slice va ag.length vc)).cell? ⟨B,3,none⟩=some (.slice sa sk.length sc):=⟨bg hZ.1 hch HE.ne.2.1,(World.cell?_setCell_other _ _ _ _ (by intro e;cases e)).trans hZ.2.1,(World.cell?_setCell_other _ _ _ _ (by intro e;cases e)).trans hZ.2.2⟩;replace HE:=hid (HE.to hch (HE.hs.setAg (lbg':=R+1) ch.o (by omega) b9.o));have ak:=hch.size;generalize b3.setCell ⟨B,4,none⟩ (.slice va ag.length vc)=y12 at HE hch ak hK|-;replace aF:=Nat.lt_of_lt_of_le aF ak;clear hch ak b9;refine hKq.out _ _ (hK) ?_;clear hKq Kq hZ;refine fun hZ=>aT ?_;clear hK;refine az ?_ _;clear hZ;go_wp2_with fail;obtain⟨sa,sc,ga,gc,⟨k0,-⟩,-,-,⟨k3,-⟩,-,-,-⟩:=HE.hs.ats;dsimp only at k0 k3;refine bC (fun W:World=>W.cell? C=some (B:Y)/\W.cell? B=some (.int .i64 u)/\W.cell? ⟨B,3,none⟩=some (.slice sa sk.length sc)) (⟨HE.cC,k0,k3⟩) fun hZ=>?_;clear k0 k3;replace HE:=hid HE.drew;replace aF:R<y12.drew.heap.size:=aF;obtain⟨y13,cM⟩:∃y13,y13=y12.drew:=⟨_,rfl⟩;rw[<-cM]at HE hZ aF|-;clear cM;refine aB 0 4 10 1 ?_;refine aB 5 2 6 3 ?_;refine aO 7 ?_;obtain⟨cs,dT,ga,gc,-,-,-,⟨k3,-⟩,-,a6,-⟩:=HE.hs.ats;dsimp only at k3 a6;obtain⟨rfl,rfl⟩:sa=cs/\sc=dT:=by have:=hZ.2.2.symm.trans k3;injection this with e;injection e with e1 e2 e3;exact⟨e1,e3⟩
  clear k3;have bu:=hid (show IntKind.i64.wrap (u+aC sk)=u+aC sk/\IntKind.i64.wrap (u+aC sk-(s.una+aC s.sk))=u+aC sk-(s.una+aC s.sk)/\dH sk=aC sk from⟨IntWalk.i64_in _ (by have h1:=al.u0;have h2:=al.un;have h3:=al.n40;have h4:=aL c9.o;have h5:=bc.o;omega),IntWalk.i64_in _ (by have h1:=al.u0;have h2:=al.un;have h3:=al.n40;have h4:=aL c9.o;have h5:=bc.o;have h6:=aL al.csk;omega),by unfold dH;rw[if_pos c9.o]⟩);refine aX 8 fun Kq hKq=> ?_;go_simp;refine(du y13 y13.heap.size sa sc sk a6.1 (Nat.le_refl _)).mono ?_;rintro e y14⟨rfl,hb⟩;have hK:y14.cell? C=some (B:Y)/\y14.cell? B=some (.int .i64 u)/\y14.cell? ⟨B,3,none⟩=some (.slice sa sk.length sc):=⟨(hb.cell (p:=⟨C,0,none⟩) (block_lt_of_cell hZ.1)).trans hZ.1,(hb.cell (p:=⟨B,0,none⟩) (block_lt_of_cell hZ.2.1)).trans hZ.2.1,(hb.cell (p:=⟨B,3,none⟩) (block_lt_of_cell hZ.2.2)).trans hZ.2.2⟩;replace HE:=hid (HE.below hb);replace aF:=Nat.lt_of_lt_of_le aF hb.size;clear hb a6;go_simp;refine hKq.out _ _ (hK) ?_;clear hKq Kq hZ;refine fun hZ=>aT ?_;clear hK;refine aO 9 ?_;rw[bu.2.2,bu.1];refine aO 11 ?_;rw[bu.2.1];refine aO 12 ?_;obtain⟨x0,p0,q0⟩:=HE.r0;obtain⟨x1,p1,q1⟩:=HE.r1;obtain⟨n,hn⟩:∃n,n=u+aC sk-(s.una+aC s.sk):=⟨_,rfl⟩;rw[<-hn];have HN:=hid hn;clear hn;refine aX 13 fun Kq hKq=> ?_;go_simp;have eB:R≠B:=HE.ne.2.2.2;have e0:At R 0 x0 y14:=⟨p0,q0⟩;have e1:At R 1 x1 y14:=⟨p1,q1⟩;have d0:=((e0.set (.int .i64 n)).other ⟨R,1,none⟩ (0:Int) (by intro e;cases e)).1;have d1:=((e1.other ⟨R,0,none⟩ (.int .i64 n) (by intro e;cases e)).set (0:Int)).1;clear p0 q0 p1 q1 e0 e1;have hch:Chg R y14 ((y14.setCell R (.int .i64 n)).setCell ⟨R,1,none⟩ (0:Int)):=((Chg.refl R y14).setCell 0 (.int .i64 n)).setCell 1 (0:Int);have eC:=HE.hs.other hch (by omega) (by omega) (by omega);have hcb:Chg B w ((y14.setCell R (.int .i64 n)).setCell ⟨R,1,none⟩ (0:Int)):=(HE.chg.setNew ⟨R,0,none⟩ HE.rw_ (.int .i64 n)).setNew ⟨R,1,none⟩ HE.rw_ (0:Int)
  have eL:({ s with una:=u,sk:=sk,ag:=ag }:Sc)=s.acked una ls:=by
   unfold Sc.acked;rw[if_pos ac.o,bc.o,c8.o,fa.o] <;> rfl
  have HZ:=hid (show bD B w.heap.size (s.acked una ls) ((y14.setCell R (.int .i64 n)).setCell ⟨R,1,none⟩ (0:Int)) by rw[<-eL];exact eC.mono (by have:=HE.rw_;omega) (by have:=HE.rw_;omega) b8.lt b8.lt);have eS:=hid hcb;have hK:((y14.setCell R (.int .i64 n)).setCell ⟨R,1,none⟩ (0:Int)).cell? C=some (B:Y)/\((y14.setCell R (.int .i64 n)).setCell ⟨R,1,none⟩ (0:Int)).cell? B=some (.int .i64 u)/\((y14.setCell R (.int .i64 n)).setCell ⟨R,1,none⟩ (0:Int)).cell? ⟨B,3,none⟩=some (.slice sa sk.length sc):=⟨bg hZ.1 hch (by have:=es.o;have:=HE.rw_;omega),bg hZ.2.1 hch (Ne.symm eB),bg hZ.2.2 hch (Ne.symm eB)⟩;clear eL eC hch hcb;generalize ((y14.setCell R (.int .i64 n)).setCell ⟨R,1,none⟩ (0:Int))=y15 at d0 d1 HZ eS hK|-;refine hKq.out _ _ (hK) ?_;clear hKq Kq hZ;refine fun hZ=>aT ?_;clear hK;refine az ?_ _;clear hZ;go_wp2_with fail;refine bodyPost_ret (v:=.agg #[.int .i64 n,(0:Int)]) (by simp[results,Tryz.results149,go_sem,d0,d1]) rfl ⟨_,rfl,by unfold Sc.ackN Sc.ackE;rw[if_pos ac.o,if_pos ac.o,<-c8.o,<-bc.o,<-HN.o],Or.inr HZ.o,eS.o⟩
end
section
open Go.RowKit Go.Shelf
set_option maxHeartbeats 1000000 in
theorem mL (T C L B lb:Nat) (s:Sc) (una:Int) (la:Option Addr) (lc:Nat) (ls:List Sp) (w:World) (ok:s.Ok) (cT:w.cell? T=some (una:Y)) (cC:w.cell? C=some (B:Y)) (cL:w.cell? L=some (.slice la ls.length lc))
  (ne:T≠B/\C≠B/\L≠B) (hs:bD B lb s w) (hl:vw B la ls w) (hlen:(s.sk++ls).length<=1099511627776) :
  Calls Tryz.prog 148 #[B,.agg #[(0:Int),(1:Int)],.func (.func 149) #[] #[T,C,L]] w fun e w'=>e= .returned (.agg #[(s.ackN una ls),(s.ackE una ls)])/\bD B lb (s.acked una ls) w'/\Chg B w w':=by
 have hb:=((Below.refl w.heap.size w).alloc (Nat.le_refl _) (.cells #[(0:Int),(1:Int)] 187)).alloc (by simp) (.cells #[(0:Int),(0:Int)] 187);have hc:=Chg.of_below (B:=B) hb;have hlt:=hs.lt;have a0:At (w.heap.size+1) 0 (0:Int) ((w.alloc (.cells #[(0:Int),(1:Int)] 187)).alloc (.cells #[(0:Int),(0:Int)] 187)):=At.new (W:=w.alloc (.cells #[(0:Int),(1:Int)] 187)) (vs:= #[(0:Int),(0:Int)]) _ (by simp) rfl;have a1:At (w.heap.size+1) 1 (0:Int) ((w.alloc (.cells #[(0:Int),(1:Int)] 187)).alloc (.cells #[(0:Int),(0:Int)] 187)):=At.new (W:=w.alloc (.cells #[(0:Int),(1:Int)] 187)) (vs:= #[(0:Int),(0:Int)]) _ (by simp) rfl;have HU:=hid (ox T C L B lb s una la lc ls ((w.alloc (.cells #[(0:Int),(1:Int)] 187)).alloc (.cells #[(0:Int),(0:Int)] 187)) ok (bg cT hc ne.1) (bg cC hc ne.2.1) (bg cL hc ne.2.2) ne (hs.below hb) (hl.chg hc) hlen);have HC:=hid hc;have HA:=hid (show At (w.heap.size+1) 0 (0:Int) _/\At (w.heap.size+1) 1 (0:Int) _ from⟨a0,a1⟩);have b8:=hid hs;have HB:=hid hb;have hsz:((w.alloc (.cells #[(0:Int),(1:Int)] 187)).alloc (.cells #[(0:Int),(0:Int)] 187)).heap.size=w.heap.size+2:=by simp
 have hlb:=hs.2.1.1;clear ok cT cC cL ne hs hl hlen hb hc a0 a1
 go_enter Tryz.func148,Tryz.ntmps148
 go_wp2_with fail;generalize (w.alloc (.cells #[(0:Int),(1:Int)] 187)).alloc (.cells #[(0:Int),(0:Int)] 187)=w1 at HU HC HA HB hsz|-;refine(HU.o).mono ?_;rintro e w2⟨v,rfl,rfl,hS,hch⟩;have hne:w.heap.size+1≠B:=by omega
 obtain⟨c0,f0⟩:=mB HA.1 hch hne;obtain⟨c1,f1⟩:=mB HA.2 hch hne;have e0:At (w.heap.size+1) 0 (0:Int) w2:=⟨c0,f0⟩;have e1:At (w.heap.size+1) 1 (0:Int) w2:=⟨c1,f1⟩;have hR:Chg (w.heap.size+1) w2 ((w2.setCell ⟨w.heap.size+1,0,none⟩ (s.ackN una ls)).setCell ⟨w.heap.size+1,1,none⟩ (s.ackE una ls)):=((Chg.refl _ w2).setCell 0 _).setCell 1 _
 have HS:=hid (show bD B lb (s.acked una ls) ((w2.setCell ⟨w.heap.size+1,0,none⟩ (s.ackN una ls)).setCell ⟨w.heap.size+1,1,none⟩ (s.ackE una ls)) by
  rcases hS with⟨e,am⟩ | hS
  ·rw[e];exact b8.below (((HB.trans (am.mono HB.size)).setCell (p:=⟨w.heap.size+1,0,none⟩) (by simp) _).setCell (p:=⟨w.heap.size+1,1,none⟩) (by simp) _)
  exact(hS.other hR (Ne.symm hne) (by omega)).mono (by omega) (by omega) b8.1.1 b8.1.1)
 have b4:=hid (((HC.trans hch).setNew ⟨w.heap.size+1,0,none⟩ (by simp) (s.ackN una ls)).setNew ⟨w.heap.size+1,1,none⟩ (by simp) (s.ackE una ls));have d0:=((e0.set (s.ackN una ls)).other ⟨w.heap.size+1,1,none⟩ (s.ackE una ls) (by intro e;cases e)).1;have d1:=((e1.other ⟨w.heap.size+1,0,none⟩ (s.ackN una ls) (by intro e;cases e)).set (s.ackE una ls)).1;clear hS hR hch e0 e1 HU HC HA HB b8;go_wp2_with fail;clear c0 f0 c1 f1;exact bodyPost_ret (v:=.agg #[(s.ackN una ls),(s.ackE una ls)]) (by simp[results,Tryz.results148,go_sem,d0,d1]) rfl ⟨rfl,HS.o,b4.o⟩
set_option maxHeartbeats 1000000 in
theorem jW (B lb:Nat) (s:Sc) (una:Int) (la:Option Addr) (lc:Nat) (ls:List Sp) (w:World) (ok:s.Ok) (hs:bD B lb s w) (hl:vw B la ls w) (hlen:(s.sk++ls).length<=1099511627776) :
  Calls Tryz.prog 108 #[B,una,.slice la ls.length lc] w fun e w'=>e= .returned (.tuple #[(s.ackN una ls),(s.ackE una ls)])/\bD B lb (s.acked una ls) w'/\Chg B w w':=by
 have hlt:=hs.lt;have hb1:=(Below.refl w.heap.size w).alloc (Nat.le_refl _) (.cells #[B] 93);have hb2:=hb1.alloc (by simp) (.cells #[una] 3);have hb:=hb2.alloc (by simp;omega) (.cells #[.slice la ls.length lc] 41);have a0:=((show At w.heap.size 0 B _ from At.new (W:=w) (vs:= #[B]) 93 rfl rfl).alloc (.cells #[una] 3)).alloc (.cells #[.slice la ls.length lc] 41);have a1:=(show At (w.heap.size+1) 0 una _ from At.new (W:=w.alloc (.cells #[B] 93)) (vs:= #[una]) 3 (by simp) rfl).alloc (.cells #[.slice la ls.length lc] 41);have a2:=(show At (w.heap.size+2) 0 (.slice la ls.length lc) _ from At.new (W:=(w.alloc (.cells #[B] 93)).alloc (.cells #[una] 3)) (vs:= #[.slice la ls.length lc]) 41 (by simp) rfl);have hc:=Chg.of_below (B:=B) hb;have HU:=hid (mL (w.heap.size+1) w.heap.size (w.heap.size+2) B lb s una la lc ls (((w.alloc (.cells #[B] 93)).alloc (.cells #[una] 3)).alloc (.cells #[.slice la ls.length lc] 41)) ok a1.1 a0.1 a2.1 ⟨by omega,by omega,by omega⟩ (hs.below hb) (hl.chg hc) hlen);have HC:=hid hc;have c0:=a0.1;clear hb1 hb2 hb a0 a1 a2 hc hs hl ok hlen
 go_enter Tryz.func108,Tryz.ntmps108
 go_wp2_with fail;generalize ((w.alloc (.cells #[B] 93)).alloc (.cells #[una] 3)).alloc (.cells #[.slice la ls.length lc] 41)=w1 at HU HC c0|-;refine(HU.o).mono ?_;rintro e w2⟨rfl,hS,hch⟩;have b4:=hid (HC.trans hch);have HS:=hid hS;clear c0 hS hch HU HC;go_wp2_with fail;have d0:=(show At w2.heap.size 0 (s.ackN una ls) (w2.alloc (.cells #[(s.ackN una ls),(s.ackE una ls)] 187))from At.new (W:=w2) (vs:= #[(s.ackN una ls),(s.ackE una ls)]) 187 rfl rfl).1;have d1:=(show At w2.heap.size 1 (s.ackE una ls) (w2.alloc (.cells #[(s.ackN una ls),(s.ackE una ls)] 187))from At.new (W:=w2) (vs:= #[(s.ackN una ls),(s.ackE una ls)]) 187 rfl rfl).1;have hb3:=bU w2 (.cells #[(s.ackN una ls),(s.ackE una ls)] 187);replace HS:=hid (HS.below hb3);replace b4:=hid (b4.trans (Chg.of_below hb3));clear hb3;generalize (w2.alloc (.cells #[(s.ackN una ls),(s.ackE una ls)] 187))=w3 at HS b4 d0 d1|-;refine bC (fun W:World=>W.cell? w2.heap.size=some (s.ackN una ls:Y)/\W.cell? ⟨w2.heap.size,1,none⟩=some (s.ackE una ls:Y)) (⟨d0,d1⟩) fun hZ=>?_;refine aB 0 1 2 3 ?_;refine aK 4 5 ?_;refine az ?_ _;clear hZ;replace HS:=hid (HS.below (Below.refl _ _).drew);replace b4:=hid b4.drew;go_wp2_with fail;exact bodyPost_ret (v:=.tuple #[(s.ackN una ls),(s.ackE una ls)]) (by simp[results,Tryz.results108,go_sem]) rfl ⟨rfl,HS.o,b4.o⟩
end
end Go.Proofs.YtclkcmidhhfdmaaGreatDoor
