import Derived.Test.YtclkcmidhhfdmaaGreatDoorKb13
import Derived.Test.YtclkcmidhhfdmaaGreatDoorKb16
import Derived.Deep.CutBlock
import Derived.Deep.DeepCutAuto
namespace Go.Proofs.YtclkcmidhhfdmaaGreatDoor
open Lib (hid)
section
set_option maxRecDepth 100000
open Go.RowKit Go.Shelf
def WB (w:World) (n₀:Nat) (v:Value) (L:List Sp):Prop:=∃ a cap,v= .slice a L.length cap/\SpAt w n₀ a L/\L.length<=cap
theorem WB.tail {w:World} {n₀:Nat} {y:Sp} {t:List Sp} {b o n cap:Nat} (h:WB w n₀ (.slice (some ⟨b,o,none⟩) n cap) (y::t)) (_hc1:cap≠1):WB w n₀ (.slice (some ⟨b,o+2,none⟩) t.length (cap-1)) t:=by
 obtain ⟨a,cap',hv,hs,hc⟩:=h
 cases hv
 obtain ⟨b',o',e,hb,hcs⟩:=hs.cells (by simp)
 cases e
 have hs2:=hs.small;rw [List.length_cons] at hc hs2;refine ⟨_,_,rfl,⟨by omega,fun hl=>⟨b,o+2,rfl,hb,fun i hi=> ?_⟩⟩,by omega⟩;have:=hcs (i+1) (by simpa using hi);rw [show o+(i+1)*2=o+2+i*2 by omega] at this
 simpa using this
theorem upL_gt {e a:Int} {l:List Sp} (h:canonF e l=true):∀ z∈upL a l,a<z.2:=by
 induction l generalizing e with
 | nil=>intro z hz;cases hz
 | cons x l ih =>
  rw [canonF_cons] at h;rw [upL_cons];split
  ·exact ih h.2
  intro z hz
  rcases List.mem_cons.1 hz with rfl | hz
  ·omega
  have h1:=canonF_ok h.2 z hz;unfold okS at h1;have:=canonF_gt h.2 (show Mem z.1 l from ⟨z,hz,Int.le_refl _,h1.2.1⟩);omega
structure RestB (LA LB:List Sp) (k:Nat) (bl:List Sp):Prop where
 canon:∃ e,canonF e bl=true
 rest:∀ a t:Int,(∀ y∈LA.take k,y.1<=a)->gapsF t a bl=gapsF t a LB
theorem RestB.start {LA LB:List Sp} {e:Int} (h:canonF e LB=true):RestB LA LB 0 LB:=⟨⟨e,h⟩,fun _ _ _=>rfl⟩
theorem canonF_up {e:Int} {l:List Sp} (h:canonF e l=true) (a:Int):∃ e',canonF e' (upL a l)=true:=by
 induction l generalizing e with
 | nil=>exact ⟨e,h⟩
 | cons x l ih =>
  rw [upL_cons];split
  ·exact ih (canonF_cons.1 h).2
  exact ⟨e,h⟩
theorem RestB.step {LA LB:List Sp} {ea:Int} {k:Nat} {bl:List Sp} (h:RestB LA LB k bl) (ha:canonF ea LA=true) (hk:k<LA.length):RestB LA LB (k+1) (upL LA[k].1 bl)/\gapsF LA[k].2 LA[k].1 (upL LA[k].1 bl)=gapsF LA[k].2 LA[k].1 LB:=by
 have hsort:∀ (L:List Sp) (e:Int),canonF e L=true->L.Pairwise (fun x y=>x.1<=y.1):=by
  intro L
  induction L with
  | nil=>intro _ _;exact List.Pairwise.nil
  | cons x l ih =>
   intro e hc;rw [canonF_cons] at hc;refine List.Pairwise.cons (fun y hy=> ?_) (ih _ hc.2);have:=canonF_gt hc.2 (show Mem y.1 l from ⟨y,hy,Int.le_refl _,(canonF_ok hc.2 y hy).2.1⟩);omega
 have hp:=hsort LA ea ha;obtain ⟨e,he⟩:=h.canon;have key:∀ a t:Int,LA[k].1<=a->gapsF t a (upL LA[k].1 bl)=gapsF t a bl:=fun a t hle=>by rw [←gapsF_up (upL LA[k].1 bl),upL_upL hle,gapsF_up]
 have hle:∀ y∈LA.take k,y.1<=LA[k].1:=fun y hy=>by
  obtain ⟨i,hi,rfl⟩:=List.mem_iff_getElem.1 hy;rw [List.length_take] at hi;rw [List.getElem_take];exact List.pairwise_iff_getElem.1 hp i k (by omega) hk (by omega)
 refine ⟨⟨canonF_up he _,fun a t hall=> ?_⟩,?_⟩
 ·have hx:=hall LA[k] (by rw [List.take_succ_eq_append_getElem hk];exact List.mem_append_right _ (List.mem_singleton_self _));rw [key a t hx];exact h.rest a t (fun y hy=>Int.le_trans (hle y hy) hx)
 rw [key _ _ (Int.le_refl _)];exact h.rest _ _ hle
set_option maxHeartbeats 4000000 in
theorem without_any (w:World) (n₀:Nat) (aa ab:Option Addr) (ca cb:Nat) (LA LB:List Sp) (ea eb:Int) (hA:SpAt w n₀ aa LA) (hBs:SpAt w n₀ ab LB) (hcb:LB.length<=cb) (hn:n₀<=w.heap.size) (hca:canonF ea LA=true) (hcbn:canonF eb LB=true) :
  Calls Tryz.prog 153 #[.slice aa LA.length ca,.slice ab LB.length cb] w fun e w'=>∃ v,e= .returned v/\OwnSp w' w.heap.size v (wthF LA LB)/\Below w.heap.size w w':=by
 have HSA:=hid hA;have HSB:=hid hBs;have HCA:=hid hca;have HCB:=hid hcbn;have HCT:=hid (fun k=>canonF_take2 hca k);have hsma:=hA.small;have hsmb:=hBs.small;clear hA hBs hca hcbn
 go_enter Tryz.func153,Tryz.ntmps153
 go_wp2_with fail
 go_loopg [1,5,13] LA.length (fun g bv ov kv wr=>∃ (k:Nat) (bl:List Sp),kv= .int .i64 (k:Int)/\g+k=LA.length/\WB w n₀ bv bl/\RestB LA LB k bl/\OwnSp wr w.heap.size ov (wthF (LA.take k) LB)/\Below w.heap.size w wr)
 case atStart=>exact ⟨0,LB,rfl,rfl,⟨_,_,rfl,HSB.out,hcb⟩,RestB.start HCB.out,OwnSp.nil _ _,Below.refl _ _⟩
 case round =>
  obtain ⟨k,bl,rfl,hg,hbv,hrest,hO,hB⟩:=hrel;have HV:=hid hbv;have HR:=hid hrest;have HO:=hid hO;have HB:=hid hB;have hws:=hB.size;clear hbv hrest hO hB;by_cases hk:k<LA.length
  ·obtain ⟨sb,so,rfl,hsb,hcs⟩:=HSA.out.cells (by omega);obtain ⟨c0,c1⟩:=hcs k hk;have d0:=(HB.out.cell (p:=⟨sb,_,none⟩) (by show sb<w.heap.size;omega)).trans c0;have d1:=(HB.out.cell (p:=⟨sb,_,none⟩) (by show sb<w.heap.size;omega)).trans c1;clear c0 c1 hcs;have HKT:=hid (show wthF (LA.take (k+1)) LB=wthF (LA.take k) LB++gapsF LA[k].2 LA[k].1 LB by rw [List.take_succ_eq_append_getElem hk,wthF_snoc]);have HRS:=hid (HR.out.step HCA.out hk);have HXO:=hid (canonF_ok HCA.out LA[k] (List.getElem_mem hk));have hki:(k:Int)<(LA.length:Int):=by omega
   generalize LA[k]=x at d0 d1 HKT HRS HXO;obtain ⟨x1,x2⟩:=x;dsimp only at d0 d1 HKT HRS
   go_upto_block 2 with fail
   have hwi:=WI.new HO.out HB.out hws x1 x2;clear d0 d1;obtain ⟨X,hX⟩:∃ X,X=wr.heap.size:=⟨_,rfl⟩;have hXw:w.heap.size<=X:=by omega
   rw [←hX] at hwi ⊢;generalize wr.alloc (.cells #[.int .i64 x1,.int .i64 x2] 92)=W1 at hwi ⊢;have HWI:=hid hwi;clear hX hwi HO HB hws wr
   go_cut [1] (fun bv wx=>WB w n₀ bv (upL x1 bl)/\WI w.heap.size X x1 x2 w u5 (wthF (LA.take k) LB) wx)
   case first =>
    go_wp2_with fail
    go_loopg [1] bl.length (fun g bv wr=>∃ (b2:List Sp),g=b2.length/\upL x1 b2=upL x1 bl/\WB w n₀ bv b2/\WI w.heap.size X x1 x2 w u5 (wthF (LA.take k) LB) wr)
    case atStart=>exact ⟨bl,rfl,rfl,HV.out,HWI.out⟩
    case round =>
     clear HV HWI;obtain ⟨b2,hgl,hup,hbv,hwi⟩:=hrel;have HV:=hid hbv;have HUP:=hid hup;have HWI:=hid hwi;have HGL:=hid hgl;obtain ⟨e0,e1⟩:=hwi.cells;clear hbv hup hwi hgl
     cases b2 with
     | nil =>
      obtain ⟨ab,cb,rfl,-,-⟩:=HV.out;go_wp2_with fail
      go_quiet (fail)
      go_wp2_with fail
      go_meet
      case rel=>exact ⟨by rw [←HUP.out];exact HV.out,HWI.out.drewN nq⟩
     | cons y t =>
      obtain ⟨ab,cb,rfl,hsp,hcap⟩:=HV.out;obtain ⟨bb,bo,rfl,hbb,hbc⟩:=hsp.cells (by simp);obtain ⟨p0,p1⟩:=hbc 0 (by simp);simp only [Nat.zero_mul,Nat.add_zero,List.getElem_cons_zero] at p0 p1;have q0:=(HWI.out.below.cell (p:=⟨bb,_,none⟩) (by show bb<w.heap.size;omega)).trans p0;have q1:=(HWI.out.below.cell (p:=⟨bb,_,none⟩) (by show bb<w.heap.size;omega)).trans p1;clear p0 p1 hbc hsp;obtain ⟨y1,y2⟩:=y;dsimp only at q0 q1;have hl1:((y1,y2)::t).length=t.length+1:=rfl;have HV2:=hid (WB.tail HV.out);rw [hl1] at hcap ⊢;clear hl1;by_cases hy:y2<=x1
      ·go_wp2_with fail
       go_quiet (fail)
       by_cases hc1:cb=1
       ·subst hc1;go_wp2_with fail;obtain rfl:t=[]:=List.eq_nil_of_length_eq_zero (by omega)
        go_roundg 0
        case measure=>have:=HGL.out;simp at this;omega
        case rel=>exact ⟨[],rfl,by rw [←HUP.out,upL_cons,if_pos (by exact hy)],⟨_,_,rfl,⟨by simp,fun h=>absurd h (by simp)⟩,by simp⟩,HWI.out.drewN nq⟩
       go_wp2_with fail
       go_roundg t.length
       case measure=>have:=HGL.out;rw [List.length_cons] at this;omega
       case rel=>exact ⟨t,rfl,by rw [←HUP.out,upL_cons,if_pos (by exact hy)],HV2.out hc1,HWI.out.drewN nq⟩
      go_wp2_with fail
      go_quiet (fail)
      go_wp2_with fail
      go_meet
      case rel=>exact ⟨by rw [←HUP.out,upL_cons,if_neg (by show ¬ y2<=x1;omega)];exact HV.out,HWI.out.drewN nq⟩
   case rest =>
    clear HWI;obtain ⟨hbv,hwi⟩:=hcut;have HWI:=hid hwi;obtain ⟨e0,e1⟩:=hwi.cells;have HUG:=hid (fun (e:Int) (h:canonF e bl=true)=>upL_gt (a:=x1) h);obtain ⟨ebl,hebl⟩:=HR.out.canon;have HGT:=hid (HUG.out ebl hebl);clear HUG hebl;generalize upL x1 bl=b1 at hbv HRS HGT;have HV:=hid hbv;obtain ⟨ab,cb,rfl,hsp,hcap⟩:=hbv;have HSP:=hid hsp;have hb1:=hsp.small;clear hwi hsp;have HTOT:=hid (show wthF (LA.take k) LB++gapsF x2 x1 b1=wthF (LA.take (k+1)) LB by rw [HKT.out,HRS.out.2]);have HLEN:=hid (canonF_len (wthF_spec (HCT.out (k+1)) HCB.out).1);obtain ⟨TOT,hTOT⟩:∃ TOT,TOT=wthF (LA.take (k+1)) LB:=⟨_,rfl⟩;have HTOTE:=hid hTOT.symm;rw [←hTOT] at HTOT HLEN;clear hTOT HKT;generalize wthF (LA.take k) LB=out0 at HWI HTOT
    go_upto_block 4 with fail
    go_cut [5,8] (fun ov av wx=>∃ out at',av= .int .i64 at'/\WI w.heap.size X x1 x2 w ov out wx/\out++one at' x2=TOT)
    case first =>
     go_wp2_with fail
     go_loopg [5,8,35] b1.length (fun g ov av iv wr=>∃ (i:Nat) (out:List Sp) (at':Int),iv= .int .i64 (i:Int)/\av= .int .i64 at'/\g+i=b1.length/\WI w.heap.size X x1 x2 w ov out wr/\out++gapsF x2 at' (b1.drop i)=TOT/\(∃ e,canonF e (b1.drop i)=true)/\∀ z∈b1.drop i,at'<z.2)
     case atStart=>exact ⟨0,_,x1,rfl,rfl,rfl,HWI.out,HTOT.out,HRS.out.1.canon,HGT.out⟩
     case round =>
      clear HWI e0 e1;obtain ⟨i,out,at',rfl,rfl,hgi,hwi,htot,hcn,hgt⟩:=hrel;have HWI:=hid hwi;have HT:=hid htot;have HCN:=hid hcn;have HG2:=hid hgt;obtain ⟨e0,e1⟩:=hwi.cells;have hws:=hwi.below.size;clear hwi htot hcn hgt;by_cases hi:i<b1.length
      ·obtain ⟨bb,bo,rfl,hbb,hbc⟩:=HSP.out.cells (by omega);obtain ⟨p0,p1⟩:=hbc i hi;have q0:=(HWI.out.below.cell (p:=⟨bb,_,none⟩) (by show bb<w.heap.size;omega)).trans p0;have q1:=(HWI.out.below.cell (p:=⟨bb,_,none⟩) (by show bb<w.heap.size;omega)).trans p1;clear p0 p1 hbc;have HDR:=hid (List.drop_eq_getElem_cons hi);have hii:(i:Int)<(b1.length:Int):=by omega
       generalize b1[i]=y at q0 q1 HDR;obtain ⟨y1,y2⟩:=y;dsimp only at q0 q1;rw [HDR.out] at HT HCN HG2;have hyat:at'<y2:=HG2.out _ List.mem_cons_self;obtain ⟨ey,hey⟩:=HCN.out;rw [canonF_cons] at hey;have hyo:y1<y2:=hey.1.2.2.1;have HEY:=hid hey.2;clear hey;have HT2:=hid (show out++(if x2<=y1 then one at' x2 else one at' y1++gapsF x2 y2 (b1.drop (i+1)))=TOT by have h:=HT.out;rw [show gapsF x2 at' ((y1,y2)::b1.drop (i+1))=if y2<=at' then gapsF x2 at' (b1.drop (i+1)) else if x2<=y1 then one at' x2 else one at' y1++gapsF x2 y2 (b1.drop (i+1)) from rfl,if_neg (by omega)] at h;exact h);have HG3:=hid (show ∀ z∈b1.drop (i+1),y2<z.2 from fun z hz=>by have h1:=canonF_ok HEY.out z hz;unfold okS at h1;have:=canonF_gt HEY.out (show Mem z.1 (b1.drop (i+1)) from ⟨z,hz,Int.le_refl _,h1.2.1⟩);omega);clear HT HCN HG2 HDR;have g1:=(HWI.out.alloc hws (.cells #[.int .i64 y1,.int .i64 y2] 92)).x1.1;by_cases h1:x2<=y1
       ·go_wp2_with fail
        go_meet
        case rel=>exact ⟨out,at',rfl,HWI.out.alloc hws _,by have h:=HT2.out;rw [if_pos h1] at h;exact h⟩
       have hol:out.length<=4398046511104:=by have h:=HT2.out;have h2:=HLEN.out;rw [←h,List.length_append] at h2;omega
       have HT3:=hid (show out++one at' y1++gapsF x2 y2 (b1.drop (i+1))=TOT by have h:=HT2.out;rw [if_neg (by omega),←List.append_assoc] at h;exact h);by_cases h2:at'<y1
       ·go_wp2_with (first | (at_builtin;refine wpList_append_span _ rfl _ _ rfl w.heap.size _ _ rfl ((HWI.out.own.alloc _).alloc _) hol (wr.heap.size+1) (at',y1) rfl (by simp) (by simp) (by simp;omega) ?_))
        intro v' w' ho hgr hbl;have hwi:=((HWI.out.alloc hws (.cells #[.int .i64 y1,.int .i64 y2] 92)).alloc (by simp;omega) (.cells #[.int .i64 at',.int .i64 y1] 92)).app (Nat.le_refl _) ho hgr (by rcases hbl with h | ⟨kk,h,hk⟩;exact .inl h;exact .inr ⟨kk,h,by simp;omega⟩);have HW2:=hid hwi
        have y1c:w'.cell? ⟨wr.heap.size,1,none⟩=some (.int .i64 y2):=by
         refine (cell_grown hgr (by
          show ((wr.alloc (.cells #[.int .i64 y1,.int .i64 y2] 92)).alloc (.cells #[.int .i64 at',.int .i64 y1] 92)).cell? ⟨wr.heap.size,1,none⟩=_;exact (((At.new (W:=wr) (vs:= #[.int .i64 y1,.int .i64 y2]) 92 (i:=1) rfl rfl).alloc (.cells #[.int .i64 at',.int .i64 y1] 92))).1) ?_)
         intro e;have:=(HWI.out.own.lt _ e).2;omega
        clear ho hgr hbl hwi q0 q1 e0 e1 g1;go_wp2_with fail
        go_roundg (gk-1)
        case measure=>omega
        case rel=>exact ⟨i+1,_,y2,by go_num,rfl,by omega,HW2.out,by have h:=HT3.out;unfold one at h;rw [if_pos h2] at h;exact h,⟨_,HEY.out⟩,HG3.out⟩
       have h2':y1<=at':=by omega
       go_wp2_with fail
       go_roundg (gk-1)
       case measure=>omega
       case rel=>exact ⟨i+1,_,y2,by go_num,rfl,by omega,HWI.out.alloc hws _,by have h:=HT3.out;unfold one at h;rw [if_neg (by omega),List.append_nil] at h;exact h,⟨_,HEY.out⟩,HG3.out⟩
      obtain rfl:i=b1.length:=by omega
      go_wp2_with fail
      go_meet
      case rel=>exact ⟨out,at',rfl,HWI.out,by have h:=HT.out;rw [List.drop_length] at h;exact h⟩
    case rest =>
     clear HWI e0 e1 HSP;obtain ⟨out,at',rfl,hwi,htot⟩:=hcut;have HWI:=hid hwi;have HT:=hid htot;obtain ⟨e0,e1⟩:=hwi.cells;have hws:=hwi.below.size;clear hwi htot;have hol:out.length<=4398046511104:=by have h:=HT.out;have h2:=HLEN.out;rw [←h,List.length_append] at h2;omega
     by_cases h2:at'<x2
     ·go_wp2_with (first | (at_builtin;refine wpList_append_span _ rfl _ _ rfl w.heap.size _ _ rfl (HWI.out.own.alloc _) hol _ (at',x2) rfl (by simp) (by simp) (by simp;omega) ?_))
      intro v' w' ho hgr hbl;have hwi:=(HWI.out.alloc hws (.cells #[.int .i64 at',.int .i64 x2] 92)).app (Nat.le_refl _) ho hgr (by rcases hbl with h | ⟨kk,h,hk⟩;exact .inl h;exact .inr ⟨kk,h,by simp;omega⟩);have HW2:=hid hwi;clear ho hgr hbl hwi e0 e1;go_wp2_with fail
      go_roundg (LA.length-(k+1))
      case measure=>omega
      case rel=>exact ⟨k+1,b1,by go_num,by omega,HV.out,HRS.out.1,by rw [HTOTE.out];have h:=HT.out;unfold one at h;rw [if_pos h2] at h;rw [←h];exact HW2.out.own,HW2.out.below⟩
     have h2':x2<=at':=by omega
     go_wp2_with fail
     go_roundg (LA.length-(k+1))
     case measure=>omega
     case rel=>exact ⟨k+1,b1,by go_num,by omega,HV.out,HRS.out.1,by rw [HTOTE.out];have h:=HT.out;unfold one at h;rw [if_neg (by omega),List.append_nil] at h;rw [←h];exact HWI.out.own,HWI.out.below⟩
  obtain rfl:k=LA.length:=by omega
  have hO:=HO.out;rw [List.take_length] at hO;have HO2:=hid hO;clear hO;go_wp2_with fail;go_ret;exact ⟨_,rfl,HO2.out,HB.out⟩
end
section
open Go.RowKit Go.Shelf
def scCells (s:Sc) (sa:Option Addr) (sc:Nat) (ga:Option Addr) (gc:Nat):Array Value:= #[.int .i64 s.una,.int .i64 s.next,.int .i64 s.mark,.slice sa s.sk.length sc,.slice ga s.ag.length gc]
def ScAtG (B lbs lbg:Nat) (s:Sc) (W:World):Prop:=(B<lbs/\B<lbg)/\(lbs<=W.heap.size/\lbg<=W.heap.size)/\∃ sa sc ga gc,W.heap[B]? =some (.cells (scCells s sa sc ga gc) 171 (0,0))/\LstAt lbs s.sk sa sc W/\LstAt lbg s.ag ga gc W
def ScAt (B lb:Nat) (s:Sc) (W:World):Prop:=ScAtG B lb lb s W
theorem ScAtG.lt {B lbs lbg:Nat} {s:Sc} {W:World} (h:ScAtG B lbs lbg s W):B<W.heap.size:=Nat.lt_of_lt_of_le h.1.1 h.2.1.1
theorem ScAtG.below {B lbs lbg:Nat} {s:Sc} {W W':World} (h:ScAtG B lbs lbg s W) (hb:Below W.heap.size W W'):ScAtG B lbs lbg s W':=by
 have hl:=h.lt;obtain ⟨h1,⟨h2,h3⟩,sa,sc,ga,gc,hc,ls,lg⟩:=h;exact ⟨h1,⟨Nat.le_trans h2 hb.size,Nat.le_trans h3 hb.size⟩,sa,sc,ga,gc,(hb.block B hl).trans hc,ls.below hb,lg.below hb⟩
theorem ScAtG.other {B C lbs lbg:Nat} {s:Sc} {W W':World} (h:ScAtG B lbs lbg s W) (hc:Chg C W W') (hne:B≠C) (hC:C<lbs) (hC2:C<lbg):ScAtG B lbs lbg s W':=by
 have hl:=h.lt;obtain ⟨h1,⟨h2,h3⟩,sa,sc,ga,gc,hcs,ls,lg⟩:=h;exact ⟨h1,⟨Nat.le_trans h2 hc.size,Nat.le_trans h3 hc.size⟩,sa,sc,ga,gc,(hc.block B hl hne).trans hcs,ls.other hc hC,lg.other hc hC2⟩
theorem ScAtG.ats {B lbs lbg:Nat} {s:Sc} {W:World} (h:ScAtG B lbs lbg s W):∃ sa sc ga gc,At B 0 (.int .i64 s.una) W/\At B 1 (.int .i64 s.next) W/\At B 2 (.int .i64 s.mark) W/\At B 3 (.slice sa s.sk.length sc) W/\At B 4 (.slice ga s.ag.length gc) W/\LstAt lbs s.sk sa sc W/\LstAt lbg s.ag ga gc W:=by
 obtain ⟨h1,h2,sa,sc,ga,gc,hc,ls,lg⟩:=h;have c:∀ i v,(scCells s sa sc ga gc)[i]? =some v->At B i v W:=fun i v hv=>⟨by rw [cell_of_row _ _ _ _ _ _ hc];exact hv,frozen_of_row _ _ _ _ _ hc⟩;exact ⟨sa,sc,ga,gc,c 0 _ rfl,c 1 _ rfl,c 2 _ rfl,c 3 _ rfl,c 4 _ rfl,ls,lg⟩
theorem ScAtG.set {B lbs lbg:Nat} {s s':Sc} {W:World} (h:ScAtG B lbs lbg s W) (i:Nat) (v:Value) (hk:s'.sk=s.sk) (hg:s'.ag=s.ag) (he:∀ sa sc ga gc,(scCells s sa sc ga gc).setIfInBounds i v=scCells s' sa sc ga gc):ScAtG B lbs lbg s' (W.setCell ⟨B,i,none⟩ v):=by
 obtain ⟨h1,h2,sa,sc,ga,gc,hc,ls,lg⟩:=h;refine ⟨h1,by simp [World.setCell];exact h2,sa,sc,ga,gc,?_,by rw [hk];exact ls.set h1.1 v,by rw [hg];exact lg.set h1.2 v⟩;rw [heap_setCell_same _ _ _ _ _ _ hc,he]
theorem ScAtG.setSk {B lbs lbs' lbg:Nat} {s:Sc} {W:World} (h:ScAtG B lbs lbg s W) (hB:B<lbs') (hs:lbs'<=W.heap.size) {L:List Sp} {a:Option Addr} {cap:Nat} (hl:LstAt lbs' L a cap W):ScAtG B lbs' lbg { s with sk:=L } (W.setCell ⟨B,3,none⟩ (.slice a L.length cap)):=by
 obtain ⟨h1,h2,sa,sc,ga,gc,hc,ls,lg⟩:=h;refine ⟨⟨hB,h1.2⟩,by simp [World.setCell];exact ⟨hs,h2.2⟩,a,cap,ga,gc,?_,hl.set hB _,lg.set h1.2 _⟩;rw [heap_setCell_same _ _ _ _ _ _ hc];rfl
theorem ScAtG.setAg {B lbs lbg lbg':Nat} {s:Sc} {W:World} (h:ScAtG B lbs lbg s W) (hB:B<lbg') (hs:lbg'<=W.heap.size) {L:List Sp} {a:Option Addr} {cap:Nat} (hl:LstAt lbg' L a cap W):ScAtG B lbs lbg' { s with ag:=L } (W.setCell ⟨B,4,none⟩ (.slice a L.length cap)):=by
 obtain ⟨h1,h2,sa,sc,ga,gc,hc,ls,lg⟩:=h;refine ⟨⟨h1.1,hB⟩,by simp [World.setCell];exact ⟨h2.1,hs⟩,sa,sc,a,cap,?_,ls.set h1.1 _,hl.set hB _⟩;rw [heap_setCell_same _ _ _ _ _ _ hc];rfl
theorem ScAtG.mono {B lbs lbg lbs' lbg':Nat} {s:Sc} {W:World} (h:ScAtG B lbs' lbg' s W) (h1:lbs<=lbs') (h2:lbg<=lbg') (hB:B<lbs) (hB2:B<lbg):ScAtG B lbs lbg s W:=by
 obtain ⟨_,h4,sa,sc,ga,gc,hc,ls,lg⟩:=h;exact ⟨⟨hB,hB2⟩,⟨Nat.le_trans h1 h4.1,Nat.le_trans h2 h4.2⟩,sa,sc,ga,gc,hc,ls.mono h1,lg.mono h2⟩
theorem ScAt.lt {B lb:Nat} {s:Sc} {W:World} (h:ScAt B lb s W):B<W.heap.size:=ScAtG.lt h
theorem ScAt.below {B lb:Nat} {s:Sc} {W W':World} (h:ScAt B lb s W) (hb:Below W.heap.size W W'):ScAt B lb s W':=ScAtG.below h hb
theorem ScAt.other {B C lb:Nat} {s:Sc} {W W':World} (h:ScAt B lb s W) (hc:Chg C W W') (hne:B≠C) (hC:C<lb):ScAt B lb s W':=ScAtG.other h hc hne hC hC
theorem ScAt.ats {B lb:Nat} {s:Sc} {W:World} (h:ScAt B lb s W):∃ sa sc ga gc,At B 0 (.int .i64 s.una) W/\At B 1 (.int .i64 s.next) W/\At B 2 (.int .i64 s.mark) W/\At B 3 (.slice sa s.sk.length sc) W/\At B 4 (.slice ga s.ag.length gc) W/\LstAt lb s.sk sa sc W/\LstAt lb s.ag ga gc W:=ScAtG.ats h
theorem ScAt.set {B lb:Nat} {s s':Sc} {W:World} (h:ScAt B lb s W) (i:Nat) (v:Value) (hk:s'.sk=s.sk) (hg:s'.ag=s.ag) (he:∀ sa sc ga gc,(scCells s sa sc ga gc).setIfInBounds i v=scCells s' sa sc ga gc):ScAt B lb s' (W.setCell ⟨B,i,none⟩ v):=ScAtG.set h i v hk hg he
theorem ScAt.setSk {B lb:Nat} {s:Sc} {W:World} (h:ScAt B lb s W) {L:List Sp} {a:Option Addr} {cap:Nat} (hl:LstAt lb L a cap W):ScAt B lb { s with sk:=L } (W.setCell ⟨B,3,none⟩ (.slice a L.length cap)):=ScAtG.setSk h h.1.1 h.2.1.1 hl
theorem ScAt.setAg {B lb:Nat} {s:Sc} {W:World} (h:ScAt B lb s W) {L:List Sp} {a:Option Addr} {cap:Nat} (hl:LstAt lb L a cap W):ScAt B lb { s with ag:=L } (W.setCell ⟨B,4,none⟩ (.slice a L.length cap)):=ScAtG.setAg h h.1.1 h.2.1.1 hl
theorem scnew_any (w:World):Calls Tryz.prog 100 #[] w fun e w'=>e= .returned (.pointer (some ⟨w.heap.size,0,none⟩))/\w'=w.alloc (.cells (scCells sc0 none 0 none 0) 171):=by
 go_enter Tryz.func100,Tryz.ntmps100
 go_wp2_with fail;go_ret;exact ⟨rfl,rfl⟩
theorem ScAt.new {w w':World} {lb:Nat} (h:w'=w.alloc (.cells (scCells sc0 none 0 none 0) 171)):w.heap.size<w'.heap.size/\∀ W,Below w'.heap.size w' W->w.heap.size<lb->lb<=W.heap.size->ScAt w.heap.size lb sc0 W:=by
 subst h;refine ⟨by simp,fun W hb hlt hle=>⟨⟨hlt,hlt⟩,⟨hle,hle⟩,none,0,none,0,(hb.block _ (by simp)).trans (heap_alloc_new _ _),LstAt.nil _ _,LstAt.nil _ _⟩⟩
set_option maxHeartbeats 1000000 in
theorem unless_Una (p:Addr) (caps:Array Value) (w:World) (R:Value->World->Prop) (h:Calls Tryz.prog 189 caps w fun e w'=>∃ v,e= .returned v/\R v w') :
  Calls Tryz.prog 173 #[.pointer (some p),.int .i64 0,.func (.func 189) #[] caps] w fun e w'=>∃ v,e= .returned v/\R v w':=by
 have HC:=hid h;clear h
 go_enter Tryz.func173,Tryz.ntmps173
 go_wp2_with fail;refine (HC.out).mono ?_;rintro e w1 ⟨v,rfl,hR⟩;have HR:=hid hR;clear hR;go_wp2_with fail;go_ret;exact ⟨v,rfl,HR.out⟩
set_option maxHeartbeats 1000000 in
theorem unless_Next (p:Addr) (caps:Array Value) (w:World) (R:Value->World->Prop) (h:Calls Tryz.prog 174 caps w fun e w'=>∃ v,e= .returned v/\R v w') :
  Calls Tryz.prog 173 #[.pointer (some p),.int .i64 0,.func (.func 174) #[] caps] w fun e w'=>∃ v,e= .returned v/\R v w':=by
 have HC:=hid h;clear h
 go_enter Tryz.func173,Tryz.ntmps173
 go_wp2_with fail;refine (HC.out).mono ?_;rintro e w1 ⟨v,rfl,hR⟩;have HR:=hid hR;clear hR;go_wp2_with fail;go_ret;exact ⟨v,rfl,HR.out⟩
set_option maxHeartbeats 1000000 in
theorem unless_Pipe (p:Addr) (caps:Array Value) (w:World) (R:Value->World->Prop) (h:Calls Tryz.prog 214 caps w fun e w'=>∃ v,e= .returned v/\R v w') :
  Calls Tryz.prog 173 #[.pointer (some p),.int .i64 0,.func (.func 214) #[] caps] w fun e w'=>∃ v,e= .returned v/\R v w':=by
 have HC:=hid h;clear h
 go_enter Tryz.func173,Tryz.ntmps173
 go_wp2_with fail;refine (HC.out).mono ?_;rintro e w1 ⟨v,rfl,hR⟩;have HR:=hid hR;clear hR;go_wp2_with fail;go_ret;exact ⟨v,rfl,HR.out⟩
set_option maxHeartbeats 1000000 in
theorem unless_Sacked (p:Addr) (caps:Array Value) (w:World) (R:Value->World->Prop) (h:Calls Tryz.prog 211 caps w fun e w'=>∃ v,e= .returned v/\R v w') :
  Calls Tryz.prog 194 #[.pointer (some p),.slice none 0 0,.func (.func 211) #[] caps] w fun e w'=>∃ v,e= .returned v/\R v w':=by
 have HC:=hid h;clear h
 go_enter Tryz.func194,Tryz.ntmps194
 go_wp2_with fail;refine (HC.out).mono ?_;rintro e w1 ⟨v,rfl,hR⟩;have HR:=hid hR;clear hR;go_wp2_with fail;go_ret;exact ⟨v,rfl,HR.out⟩
set_option maxHeartbeats 1000000 in
theorem unless_Lost (p:Addr) (caps:Array Value) (w:World) (R:Value->World->Prop) (h:Calls Tryz.prog 195 caps w fun e w'=>∃ v,e= .returned v/\R v w') :
  Calls Tryz.prog 194 #[.pointer (some p),.slice none 0 0,.func (.func 195) #[] caps] w fun e w'=>∃ v,e= .returned v/\R v w':=by
 have HC:=hid h;clear h
 go_enter Tryz.func194,Tryz.ntmps194
 go_wp2_with fail;refine (HC.out).mono ?_;rintro e w1 ⟨v,rfl,hR⟩;have HR:=hid hR;clear hR;go_wp2_with fail;go_ret;exact ⟨v,rfl,HR.out⟩
set_option maxHeartbeats 1000000 in
theorem unless_Sent (p:Addr) (caps:Array Value) (w:World) (R:Value->World->Prop) (h:Calls Tryz.prog 143 caps w fun e w'=>∃ v,e= .returned v/\R v w') :
  Calls Tryz.prog 142 #[.pointer (some p),.int .i64 1,.func (.func 143) #[] caps] w fun e w'=>∃ v,e= .returned v/\R v w':=by
 have HC:=hid h;clear h
 go_enter Tryz.func142,Tryz.ntmps142
 go_wp2_with fail;refine (HC.out).mono ?_;rintro e w1 ⟨v,rfl,hR⟩;have HR:=hid hR;clear hR;go_wp2_with fail;go_ret;exact ⟨v,rfl,HR.out⟩
set_option maxHeartbeats 1000000 in
theorem unless_Retransmitted (p:Addr) (caps:Array Value) (w:World) (R:Value->World->Prop) (h:Calls Tryz.prog 201 caps w fun e w'=>∃ v,e= .returned v/\R v w') :
  Calls Tryz.prog 142 #[.pointer (some p),.int .i64 1,.func (.func 201) #[] caps] w fun e w'=>∃ v,e= .returned v/\R v w':=by
 have HC:=hid h;clear h
 go_enter Tryz.func142,Tryz.ntmps142
 go_wp2_with fail;refine (HC.out).mono ?_;rintro e w1 ⟨v,rfl,hR⟩;have HR:=hid hR;clear hR;go_wp2_with fail;go_ret;exact ⟨v,rfl,HR.out⟩
end
section
open Go.RowKit Go.Shelf
theorem clone_lst {lb:Nat} {L:List Sp} {a:Option Addr} {cap:Nat} {w:World} (h:LstAt lb L a cap w) :
  Calls Tryz.prog 180 #[.slice a L.length cap] w fun e w'=>∃ v,e= .returned v/\OwnSp w' w.heap.size v L/\Below w.heap.size w w':=by
 cases a with
 | none =>
  have hl:L=[]:=by
   rcases Nat.eq_zero_or_pos L.length with e | e
   ·exact List.eq_nil_of_length_eq_zero e
   obtain ⟨_,_,e,_⟩:=h.1.cells e;cases e
  subst hl;refine (clone_nil cap w).mono ?_;rintro e w' ⟨he,rfl⟩;exact ⟨_,he,OwnSp.nil _ _,Below.refl _ _⟩
 | some ad =>
  have e:=h.2.2.2.1 ad rfl;rw [e] at h ⊢;exact clone_some _ _ cap L w h.1
theorem una1_any (C B:Nat) (u:Int) (w:World) (hC:w.cell? ⟨C,0,none⟩=some (.pointer (some ⟨B,0,none⟩))) (hB:w.cell? ⟨B,0,none⟩=some (.int .i64 u)) :
  Calls Tryz.prog 189 #[.pointer (some ⟨C,0,none⟩)] w fun e w'=>e= .returned (.int .i64 u)/\w=w':=by
 go_enter Tryz.func189,Tryz.ntmps189
 go_wp2_with fail;go_ret;exact ⟨rfl,rfl⟩
theorem scuna_any (B lb:Nat) (s:Sc) (w:World) (h:ScAt B lb s w) :
  Calls Tryz.prog 156 #[.pointer (some ⟨B,0,none⟩)] w fun e w'=>e= .returned (.int .i64 s.una)/\Below w.heap.size w w':=by
 have hb:=sgBel w (.cells #[.pointer (some ⟨B,0,none⟩)] 93);obtain ⟨sa,sc,ga,gc,c0,c1,c2,c3,c4,-,-⟩:=(h.below hb).ats;have HU:=hid (una1_any w.heap.size B s.una (w.alloc (.cells #[.pointer (some ⟨B,0,none⟩)] 93)) (At.new (W:=w) (vs:= #[.pointer (some ⟨B,0,none⟩)]) _ rfl rfl).1 c0.1);have HB:=hid hb;clear hb c0 c1 c2 c3 c4 h
 go_enter Tryz.func156,Tryz.ntmps156
 go_wp2_with fail;refine (unless_Una _ _ _ (fun v w'=>v= .int .i64 s.una/\w.alloc (.cells #[.pointer (some ⟨B,0,none⟩)] 93)=w') (HU.out.mono (by rintro e w' ⟨he,hw⟩;exact ⟨_,he,rfl,hw⟩))).mono ?_;rintro e w1 ⟨v,rfl,rfl,rfl⟩;go_wp2_with fail;go_ret;exact ⟨rfl,HB.out⟩
theorem next1_any (C B:Nat) (u:Int) (w:World) (hC:w.cell? ⟨C,0,none⟩=some (.pointer (some ⟨B,0,none⟩))) (hB:w.cell? ⟨B,1,none⟩=some (.int .i64 u)) :
  Calls Tryz.prog 174 #[.pointer (some ⟨C,0,none⟩)] w fun e w'=>e= .returned (.int .i64 u)/\w=w':=by
 go_enter Tryz.func174,Tryz.ntmps174
 go_wp2_with fail;go_ret;exact ⟨rfl,rfl⟩
theorem scnext_any (B lb:Nat) (s:Sc) (w:World) (h:ScAt B lb s w) :
  Calls Tryz.prog 129 #[.pointer (some ⟨B,0,none⟩)] w fun e w'=>e= .returned (.int .i64 s.next)/\Below w.heap.size w w':=by
 have hb:=sgBel w (.cells #[.pointer (some ⟨B,0,none⟩)] 93);obtain ⟨sa,sc,ga,gc,c0,c1,c2,c3,c4,-,-⟩:=(h.below hb).ats;have HU:=hid (next1_any w.heap.size B s.next (w.alloc (.cells #[.pointer (some ⟨B,0,none⟩)] 93)) (At.new (W:=w) (vs:= #[.pointer (some ⟨B,0,none⟩)]) _ rfl rfl).1 c1.1);have HB:=hid hb;clear hb c0 c1 c2 c3 c4 h
 go_enter Tryz.func129,Tryz.ntmps129
 go_wp2_with fail;refine (unless_Next _ _ _ (fun v w'=>v= .int .i64 s.next/\w.alloc (.cells #[.pointer (some ⟨B,0,none⟩)] 93)=w') (HU.out.mono (by rintro e w' ⟨he,hw⟩;exact ⟨_,he,rfl,hw⟩))).mono ?_;rintro e w1 ⟨v,rfl,rfl,rfl⟩;go_wp2_with fail;go_ret;exact ⟨rfl,HB.out⟩
theorem sacked1_any (C B lb:Nat) (s:Sc) (w:World) (hC:w.cell? ⟨C,0,none⟩=some (.pointer (some ⟨B,0,none⟩))) (h:ScAt B lb s w) :
  Calls Tryz.prog 211 #[.pointer (some ⟨C,0,none⟩)] w fun e w'=>∃ v,e= .returned v/\OwnSp w' w.heap.size v s.sk/\Below w.heap.size w w':=by
 obtain ⟨sa,sc,ga,gc,-,-,-,⟨c3,-⟩,-,ls,-⟩:=h.ats;have HCL:=hid (clone_lst ls);clear h ls
 go_enter Tryz.func211,Tryz.ntmps211
 go_wp2_with fail;refine (HCL.out).mono ?_;rintro e w1 ⟨v,rfl,hO,hb⟩;have HO:=hid hO;have HB:=hid hb;clear hO hb c3 hC HCL;go_wp2_with fail;go_ret;exact ⟨v,rfl,HO.out,HB.out⟩
theorem scsacked_any (B lb:Nat) (s:Sc) (w:World) (h:ScAt B lb s w) :
  Calls Tryz.prog 190 #[.pointer (some ⟨B,0,none⟩)] w fun e w'=>∃ v,e= .returned v/\OwnSp w' w.heap.size v s.sk/\Below w.heap.size w w':=by
 have hb:=sgBel w (.cells #[.pointer (some ⟨B,0,none⟩)] 93);have HU:=hid (sacked1_any w.heap.size B lb s (w.alloc (.cells #[.pointer (some ⟨B,0,none⟩)] 93)) (At.new (W:=w) (vs:= #[.pointer (some ⟨B,0,none⟩)]) _ rfl rfl).1 (h.below hb));have HB:=hid hb;clear hb h
 go_enter Tryz.func190,Tryz.ntmps190
 go_wp2_with fail;refine (unless_Sacked _ _ _ _ HU.out).mono ?_;rintro e w1 ⟨v,rfl,hO,hb⟩;have HO:=hid (hO.mono HB.out.size);have HB2:=hid (HB.out.trans (hb.mono HB.out.size));clear hO hb HB HU;go_wp2_with fail;go_ret;exact ⟨v,rfl,HO.out,HB2.out⟩
set_option maxHeartbeats 1000000 in
theorem sent1_any (T C B lb:Nat) (s:Sc) (tt:Int) (w:World) (hT:w.cell? ⟨T,0,none⟩=some (.int .i64 tt)) (hC:w.cell? ⟨C,0,none⟩=some (.pointer (some ⟨B,0,none⟩))) (h:ScAt B lb s w) :
  Calls Tryz.prog 143 #[.pointer (some ⟨T,0,none⟩),.pointer (some ⟨C,0,none⟩)] w fun e w'=>∃ v,e= .returned v/\v= .int .i64 (s.sentE tt)/\ScAt B lb (s.sent tt) w'/\Chg B w w':=by
 obtain ⟨sa,sc,ga,gc,-,⟨c1,f1⟩,-,-,-,-,-⟩:=h.ats;have HS:=hid h;clear h;by_cases h1:s.next<=tt
 ·by_cases h2:tt<=1099511627776
  ·have hb:s.sentB tt=true:=by unfold Sc.sentB;rw [decide_eq_true_iff];exact ⟨h1,h2⟩
   have HE:=hid (show s.sentE tt=0/\s.sent tt={ s with next:=tt } by unfold Sc.sentE Sc.sent;rw [if_pos hb,if_pos hb];exact ⟨rfl,rfl⟩);clear hb
   go_enter Tryz.func143,Tryz.ntmps143
   go_wp2_with fail
   go_quiet (fail)
   go_wp2_with fail;go_ret;refine ⟨_,rfl,by rw [HE.out.1];rfl,?_,?_⟩
   ·rw [HE.out.2];exact (show ScAt B lb s (w.drewN nq) from HS.out.below ⟨rfl,rfl,rfl,Nat.le_refl _,fun _ _=>rfl⟩).set 1 _ rfl rfl (fun _ _ _ _=>rfl)
   exact (show Chg B w (w.drewN nq) from ⟨rfl,rfl,rfl,Nat.le_refl _,fun _ _ _=>rfl⟩).setCell 1 _
  have hb:s.sentB tt=false:=by unfold Sc.sentB;rw [decide_eq_false_iff_not];omega
  have HE:=hid (show s.sentE tt=140/\s.sent tt=s by unfold Sc.sentE Sc.sent;rw [hb];exact ⟨rfl,rfl⟩);clear hb
  go_enter Tryz.func143,Tryz.ntmps143
  go_wp2_with fail
  go_quiet (fail)
  go_wp2_with fail;go_ret;exact ⟨_,rfl,by rw [HE.out.1];rfl,by rw [HE.out.2];exact HS.out.below ⟨rfl,rfl,rfl,Nat.le_refl _,fun _ _=>rfl⟩,⟨rfl,rfl,rfl,Nat.le_refl _,fun _ _ _=>rfl⟩⟩
 have hb:s.sentB tt=false:=by unfold Sc.sentB;rw [decide_eq_false_iff_not];omega
 have HE:=hid (show s.sentE tt=140/\s.sent tt=s by unfold Sc.sentE Sc.sent;rw [hb];exact ⟨rfl,rfl⟩);have hd:decide (tt<s.next)=true:=by rw [decide_eq_true_iff];omega
 clear hb
 go_enter Tryz.func143,Tryz.ntmps143
 go_wp2_with fail
 go_quiet (fail)
 go_wp2_with fail;go_ret;exact ⟨_,rfl,by rw [HE.out.1];rfl,by rw [HE.out.2];exact HS.out.below ⟨rfl,rfl,rfl,Nat.le_refl _,fun _ _=>rfl⟩,⟨rfl,rfl,rfl,Nat.le_refl _,fun _ _ _=>rfl⟩⟩
set_option maxHeartbeats 1000000 in
theorem scsent_any (B lb:Nat) (s:Sc) (tt:Int) (w:World) (h:ScAt B lb s w) :
  Calls Tryz.prog 102 #[.pointer (some ⟨B,0,none⟩),.int .i64 tt] w fun e w'=>e= .returned (.int .i64 (s.sentE tt))/\ScAt B lb (s.sent tt) w'/\Chg B w w':=by
 have hb:=((Below.refl w.heap.size w).alloc (Nat.le_refl _) (.cells #[.pointer (some ⟨B,0,none⟩)] 93)).alloc (by simp) (.cells #[.int .i64 tt] 3);have HU:=hid (sent1_any (w.heap.size+1) w.heap.size B lb s tt ((w.alloc (.cells #[.pointer (some ⟨B,0,none⟩)] 93)).alloc (.cells #[.int .i64 tt] 3)) (At.new (W:=w.alloc (.cells #[.pointer (some ⟨B,0,none⟩)] 93)) (vs:= #[.int .i64 tt]) _ (by simp) rfl).1 ((At.new (W:=w) (vs:= #[.pointer (some ⟨B,0,none⟩)]) _ rfl rfl).alloc _).1 (h.below hb));have HB:=hid (Chg.of_below (B:=B) hb);clear hb h
 go_enter Tryz.func102,Tryz.ntmps102
 go_wp2_with fail;refine (unless_Sent _ _ _ _ HU.out).mono ?_;rintro e w1 ⟨v,rfl,rfl,hS,hc⟩;have HS:=hid hS;have HC:=hid (HB.out.trans hc);clear hS hc HB HU;go_wp2_with fail;go_ret;exact ⟨rfl,HS.out,HC.out⟩
set_option maxHeartbeats 1000000 in
theorem sctimeout_any (B lb:Nat) (s:Sc) (w:World) (h:ScAt B lb s w) :
  Calls Tryz.prog 85 #[.pointer (some ⟨B,0,none⟩)] w fun e w'=>e= .returned (.tuple #[])/\ScAt B lb s.timeout w'/\Chg B w w':=by
 obtain ⟨sa,sc,ga,gc,-,⟨c1,f1⟩,⟨c2,f2⟩,⟨c3,f3⟩,⟨c4,f4⟩,-,-⟩:=h.ats;have HS:=hid h;clear h
 go_enter Tryz.func85,Tryz.ntmps85
 go_wp2_with fail
 go_end0
 refine ⟨rfl,?_,(((Chg.refl B w).setCell 3 _).setCell 4 _).setCell 2 _⟩;exact ((HS.out.setSk (LstAt.nil lb w)).setAg (LstAt.nil lb _)).set 2 _ rfl rfl (fun _ _ _ _=>rfl)
end
end Go.Proofs.YtclkcmidhhfdmaaGreatDoor
