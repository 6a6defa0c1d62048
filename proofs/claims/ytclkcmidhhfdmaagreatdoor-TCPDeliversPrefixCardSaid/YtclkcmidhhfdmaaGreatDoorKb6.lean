import Derived.Test.YtclkcmidhhfdmaaGreatDoorKb5
import Derived.WalkMore
import Derived.WalkSpells
import Derived.Outline
import Derived.Deep.RegionHeld3
namespace Go.Proofs.YtclkcmidhhfdmaaGreatDoor
open Lib (hid)
section
open Go.RowKit Go.Shelf
def At (B i:Nat) (v:Value) (W:World):Prop:=W.cell? ⟨B,i,none⟩=some v/\W.frozen? ⟨B,i,none⟩=false
theorem At.lt {B i:Nat} {v:Value} {W:World} (h:At B i v W):B<W.heap.size:=block_lt_of_cell h.1
theorem At.own {B i:Nat} {v:Value} {A A':World} {row:Option Nat} (h:At B i v A) (hg:A.grownBy A' row) (hr:∀ r,row=some r->∃ o:Obj,A.heap[r]? =some o/\o.isCells=false):At B i v A' :=
 ⟨cell_kept h.1 hg hr,(frozen_kept h.1 hg hr).trans h.2⟩
theorem At.grown {B i:Nat} {v:Value} {A A':World} {row:Option Nat} (h:At B i v A) (hg:A.grownBy A' row) (hr:row≠some B):At B i v A':=by
 have hb:=hg.block B h.lt (fun e=>hr e.symm);exact ⟨(World.cell?_of_block (a:=⟨B,i,none⟩) hb).trans h.1,(World.frozen?_of_block (a:=⟨B,i,none⟩) hb).trans h.2⟩
theorem At.alloc {B i:Nat} {v:Value} {W:World} (h:At B i v W) (o:Obj):At B i v (W.alloc o):=h.grown (World.grownBy_alloc W o none) (by simp)
theorem At.below {B i:Nat} {v:Value} {W W':World} {N:Nat} (h:At B i v W) (hb:Below N W W') (hN:B<N):At B i v W' :=
 ⟨(hb.cell (p:=⟨B,i,none⟩) hN).trans h.1,(hb.frozen (p:=⟨B,i,none⟩) hN).trans h.2⟩
theorem At.set {B i:Nat} {v:Value} {W:World} (h:At B i v W) (u:Value):At B i u (W.setCell ⟨B,i,none⟩ u) :=
 ⟨World.cell?_setCell_same _ _ _ h.1,by rw [World.frozen?_setCell];exact h.2⟩
theorem At.other {B i:Nat} {v:Value} {W:World} (h:At B i v W) (p:Addr) (u:Value) (hp:p≠⟨B,i,none⟩):At B i v (W.setCell p u) :=
 ⟨by rw [World.cell?_setCell_other _ _ _ _ hp];exact h.1,by rw [World.frozen?_setCell];exact h.2⟩
theorem At.ob {B C i j:Nat} {v:Value} {W:World} (h:At B i v W) (u:Value) (hp:C≠B):At B i v (W.setCell ⟨C,j,none⟩ u):=h.other _ _ (by intro e;cases e;exact hp rfl)
theorem At.new {B:Nat} {W:World} {vs:Array Value} {i:Nat} {v:Value} (t:TypeId) (hB:B=W.heap.size) (hv:vs[i]? =some v):At B i v (W.alloc (.cells vs t)):=by
 subst hB;refine ⟨?_,?_⟩
 ·rw [cell_of_row _ _ _ _ _ _ (heap_alloc_new _ _)];exact hv
 simp
theorem OwnSp.row {w:World} {base:Nat} {v:Value} {L:List Sp} (h:OwnSp w base v L) {k:Nat} (hk:v.ownBlock=some k):∃ o:Obj,w.heap[k]? =some o/\o.isCells=true:=by
 rcases h.2 with ⟨rfl,_⟩ | ⟨g,cap,cur,rfl,_,hg,_⟩
 ·cases hk
 cases hk;exact ⟨_,hg,rfl⟩
theorem OwnSp.own {A A':World} {base:Nat} {v:Value} {L:List Sp} (h:OwnSp A base v L) {row:Option Nat} (hg:A.grownBy A' row) (hr:∀ r,row=some r->∃ o:Obj,A.heap[r]? =some o/\o.isCells=false):OwnSp A' base v L:=by
 refine h.kept hg ?_
 cases hv:v.ownBlock with
 | none=>exact .inl rfl
 | some k =>
  refine .inr (fun e=> ?_);obtain ⟨o,h1,h2⟩:=h.row hv;obtain ⟨o',h3,h4⟩:=hr k e.symm;rw [h1] at h3;cases h3;rw [h2] at h4;cases h4
theorem OwnSp.setCell {W:World} {base:Nat} {v:Value} {L:List Sp} (h:OwnSp W base v L) (C j:Nat) (u:Value) (hne:v.ownBlock≠some C):OwnSp (W.setCell ⟨C,j,none⟩ u) base v L:=by
 refine h.kept (row:=some C) ⟨rfl,rfl,rfl,by simp [World.setCell],fun k _ hk=>heap_setCell_other W ⟨C,j,none⟩ k u (fun e=>hk (by rw [e]))⟩ ?_;exact .inr hne
theorem keeps_own {W W':World} {base:Nat} {v:Value} {L:List Sp} (h:OwnSp W base v L) (hg:W.grownBy W' v.ownBlock):KeepsOthers W W':=by
 refine KeepsOthers.of_grownBy hg ?_;intro j o hj ho;obtain ⟨o',h1,h2⟩:=h.row hj;rw [ho] at h1;cases h1;exact h2
theorem keeps_below {W W':World} (h:Below W.heap.size W W'):KeepsOthers W W' :=
 ⟨h.size,fun k o hk _=>by rw [h.block k (Array.getElem?_eq_some_iff.1 hk).1];exact hk⟩
theorem below_own {N B:Nat} {w A A':World} {row:Option Nat} (h:Below N w A) (hg:A.grownBy A' row) (hr:∀ r,row=some r->B<=r/\∃ o:Obj,A.heap[r]? =some o/\o.isCells=false) (hN:N<=w.heap.size) (hB:N<=B):Below N w A' :=
 h.trans (grown_below hg (Nat.le_trans hN h.size) (fun k e=>Nat.le_trans hB (hr k e).1))
theorem ret_marks {n:Nat} {P:Program} {fn:Func} {R:Ending->World->Prop} {t:Tmp} {tm:Array Value} {D:Nat} {W:World} (h:fn.results= #[.tmp t]) (hD:W.heap[D]? =some (.deferred (some [])))
  (hR:R (.returned (tm.getD t undef)) (W.putObj D (.deferred none))):bodyPostM Fence.wide n P fn R .ret { tmps:=tm,defers:=[{ target:=.collected D,args:= #[] }] } W:=by
 refine ⟨by simp,.inl ⟨_,_,rfl,run_takeDeferred hD,?_⟩⟩;exact ⟨_,results_tmp h tm P _,hR⟩
theorem ret_plain {n:Nat} {P:Program} {fn:Func} {R:Ending->World->Prop} {t:Tmp} {tm:Array Value} {W:World} (h:fn.results= #[.tmp t])
 (hR:R (.returned (tm.getD t undef)) W):bodyPostM Fence.wide n P fn R .ret { tmps:=tm,defers:=[] } W:=⟨_,results_tmp h tm P _,hR⟩
theorem below_take {N:Nat} {w W:World} {D:Nat} (h:Below N w W) (hN:N<=w.heap.size) (hND:N<=D):Below N w (W.putObj D (.deferred none)) :=
 h.trans (grown_below (grownBy_putObj' W D _) (Nat.le_trans hN h.size) (fun k e=>by cases e;exact hND))
def noPanic (Q:Exit->Act->World->Prop):Exit->Act->World->Prop
 | .panic _,_,_=>False
 | e,a,w=>Q e a w
theorem noPanic_le (Q:Exit->Act->World->Prop):∀ e a w,noPanic Q e a w->Q e a w:=by
 intro e a w h
 cases e <;> first | exact h | exact h.elim
def onNormal (F:Act->World->Prop):Exit->Act->World->Prop
 | .normal,a,w=>F a w
 | _,_,_=>False
theorem onNormal_le {F:Act->World->Prop} {Q:Exit->Act->World->Prop} (h:∀ a w,F a w->Q .normal a w):∀ e a w,onNormal F e a w->Q e a w:=by
 intro e a w k
 cases e <;> first | exact h _ _ k | exact k.elim
end
section
set_option maxRecDepth 100000
open Go.RowKit Go.Shelf
attribute [local go_sem] Oper.semAt_some
theorem countF_take {L:List Sp} {k:Nat} (h:k<L.length):countF (L.take (k+1))=countF (L.take k)+(L[k].2-L[k].1):=by
 induction L generalizing k with
 | nil=>simp at h
 | cons x L ih =>
  cases k with
  | zero=>simp [countF]
  | succ k =>
   have:=ih (k:=k) (by simpa using h);simp only [List.take_succ_cons,countF,List.getElem_cons_succ,this];omega
theorem canonF_take {e:Int} {L:List Sp} (h:canonF e L=true) (k:Nat):canonF e (L.take k)=true:=by
 induction L generalizing e k with
 | nil=>simp;exact h
 | cons x L ih =>
  cases k with
  | zero=>rfl
  | succ k=>rw [canonF_cons] at h;rw [List.take_succ_cons,canonF_cons];exact ⟨h.1,ih h.2 k⟩
theorem canonF_nth {e:Int} {L:List Sp} (h:canonF e L=true) {k:Nat} (hk:k<L.length):0<=L[k].1/\L[k].1<L[k].2/\L[k].2<=1099511627776:=by
 induction L generalizing e k with
 | nil=>simp at hk
 | cons x L ih =>
  rw [canonF_cons] at h
  cases k with
  | zero=>exact ⟨h.1.1,h.1.2.2⟩
  | succ k=>exact ih h.2 (by simpa using hk)
def cntI (S:Nat) (L:List Sp) (w:World) (k:Nat) (W:World):Prop:=At S 0 (.int .i64 (countF (L.take k))) W/\Below w.heap.size w W
theorem cntI_own {S:Nat} {L:List Sp} {w:World} {B:Nat} (hB:w.heap.size<=B):OwnFrom B (cntI S L w):=fun _ _ _ _ h hg hr=>⟨h.1.own hg (fun r e=>(hr r e).2),below_own h.2 hg hr (Nat.le_refl _) hB⟩
set_option maxHeartbeats 1000000 in
theorem count_any (w:World) (n₀:Nat) (a:Option Addr) (cap:Nat) (L:List Sp) (hc:SpAt w n₀ a L) (hn:n₀<=w.heap.size) :
  Calls Tryz.prog 151 #[.slice a L.length cap] w fun e w'=>e= .returned (.int .i64 (countL L))/\Below w.heap.size w w':=by
 have hb:=((Below.refl w.heap.size w).alloc (Nat.le_refl _) (.cells #[.slice a L.length cap] 224)).alloc (by simp) (.cells #[.slice a L.length cap] 224);have HB:=hid hb;have HS:=hid (hc.below (hb.mono hn));have hsm:=hc.small;clear hb hc;refine (callsIn_wide (n:=4)).1 ?_;refine callsIn_of_wp_marks Tryz.func151 rfl trivial ?_ rfl;simp only [Tryz.ntmps151,List.size_toArray,List.length_cons,List.length_nil,Nat.reduceAdd,Nat.reduceSub,Array.replicate_succ,Array.replicate_zero,List.push_toArray,List.append_toArray,List.nil_append,List.cons_append];refine wpIn_wide.2 ?_;go_wp2_with fail;refine (of_any _ _ _ _ _ rfl).mono ?_;rintro e w1 ⟨rfl,rfl⟩;go_wp2_with fail;refine (canonical_any _ n₀ a cap L HS.out (by have:=HB.out.size;omega)).mono ?_;rintro e w2 ⟨rfl,hb2⟩;have hz:=hb2.cell (p:=⟨w.heap.size+1,0,none⟩) (by simp);have HS2:=hid (HS.out.below (hb2.mono (by have:=HB.out.size;omega)));have HB2:=hid (HB.out.trans (hb2.mono HB.out.size));have hsz:=hb2.size
 simp at hz hsz
 clear hb2 HB HS
 cases hcan:canonB L with
 | false =>
  go_wp2_with fail;refine ret_plain rfl ⟨?_,HB2.out⟩;show Ending.returned (Value.int .i64 0)=_;unfold countL;rw [hcan];rfl
 | true =>
  have hz2:(w2.alloc (.cells #[.int .i64 0] 3)).cell? ⟨w.heap.size+1,0,none⟩=some (.slice a L.length cap):=(((Below.refl w2.heap.size w2).alloc (Nat.le_refl _) _).cell (p:=⟨w.heap.size+1,0,none⟩) (by show w.heap.size+1<_;omega)).trans hz;go_wp2_with fail;refine (wpIn_wide (n:=4)).1 ?_
  refine wp_each (n₀:=n₀) (by omega) rfl rfl (HS2.out.below ((Below.refl n₀ w2).alloc (by omega) _)) (by simp;omega)
   (cntI w2.heap.size L w) (fun _ _ _=>False) (cntI_own (by simp;omega)) (fun _ _ _ _ _ h _ _=>h.elim) ?start ?round ?done ?stop
  case start=>exact ⟨At.new _ rfl rfl,HB2.out.alloc (by omega) _⟩
  case round =>
   intro l k hk W hl hI;have hSl:=hI.1.lt;have hWs:=hI.2.size;have HI:=hid hI;clear hI
   gi_wp2
   refine ⟨(KeepsOthers.alloc _ _).from _,(Below.refl n₀ W).alloc (by omega) _,fun _ W2=>cntI w2.heap.size L w k W2/\At W.heap.size 0 (.int .i64 L[k].1) W2/\At W.heap.size 1 (.int .i64 L[k].2) W2,?_,⟨⟨HI.out.1.alloc _,HI.out.2.alloc (by omega) _⟩,At.new _ rfl rfl,At.new _ rfl rfl⟩,?_⟩
   ·intro _ A A' row h hg hr;exact ⟨cntI_own (B:=(w2.alloc (.cells #[.int .i64 0] 3)).heap.size) (by simp;omega) _ _ _ _ h.1 hg hr,h.2.1.own hg (fun r e=>(hr r e).2),h.2.2.own hg (fun r e=>(hr r e).2)⟩
   rintro W2 ⟨hI2,⟨x0,f0⟩,⟨x1,f1⟩⟩;obtain ⟨s0,fs⟩:=hI2.1;have HI2:=hid hI2;have b1:=canonF_nth hcan hk;have b2:=countF_nonneg (canonF_take hcan k);have b3:=countF_nonneg (canonF_take hcan (k+1));have HT:=hid (countF_take hk);rw [HT.out] at b3;clear hI2 f0 f1 HI
   gi_wp2
   refine ⟨(KeepsOthers.setCell _ _ _).from _,(Below.refl n₀ W2).setCell (p:=⟨w2.heap.size,0,none⟩) (by show n₀<=w2.heap.size;omega) _,?_,HI2.out.2.setCell (p:=⟨w2.heap.size,0,none⟩) (by show w.heap.size<=w2.heap.size;omega) _⟩;rw [HT.out];exact HI2.out.1.set _
  case done =>
   intro D W hD hI hDf;obtain ⟨s0,fs⟩:=hI.1;have HI:=hid hI;have HD:=hid hDf;have hD2:w.heap.size<=D:=by simp at hD;omega
   clear hI hDf hD;go_wp2_with fail;refine ret_marks rfl HD.out ⟨?_,below_take HI.out.2 (Nat.le_refl _) hD2⟩;show Ending.returned (Value.int .i64 (countF L))=_;unfold countL;rw [if_pos hcan]
  case stop =>
   intro D c k W _ _ h;exact h.elim
end
section
set_option maxRecDepth 100000
open Go.RowKit Go.Shelf
attribute [local go_sem] Oper.semAt_some
theorem withL_one (a b:Int):withL [(a,b)]=one a b:=by
 unfold withL one;by_cases h:a<b
 ·rw [if_pos h,List.filter_cons_of_pos (by simpa using h)];rfl
 rw [if_neg h,List.filter_cons_of_neg (by simpa using h)];rfl
theorem gapsF_drop {t at':Int} {L:List Sp} {k:Nat} (h:k<L.length):gapsF t at' (L.drop k)=if L[k].2<=at' then gapsF t at' (L.drop (k+1)) else if t<=L[k].1 then one at' t else one at' L[k].1++gapsF t L[k].2 (L.drop (k+1)):=by
 rw [List.drop_eq_getElem_cons h];rfl
theorem one_le (a b:Int):(one a b).length<=1:=by unfold one;split <;> simp
def gapC (N M:Nat) (s:Sp) (w:World) (outs:List Sp) (v:Value) (t:Int) (W:World):Prop :=
 At N 0 (.int .i64 s.1) W/\At N 1 (.int .i64 s.2) W/\At M 0 v W/\At (M+1) 0 (.int .i64 t) W/\OwnSp W (M+2) v outs/\Below N w W
def gapI (N M:Nat) (s:Sp) (w:World) (L:List Sp) (k:Nat) (W:World):Prop :=
 ∃ outs v t,gapC N M s w outs v t W/\outs.length<=k/\gapsF s.2 s.1 L=outs++gapsF s.2 t (L.drop k)
def gapX (N M:Nat) (s:Sp) (w:World) (L:List Sp) (c:Code) (k:Nat) (W:World):Prop :=
 ∃ outs v t,gapC N M s w outs v t W/\outs.length<=k/\gapsF s.2 s.1 L=outs++one t s.2/\c= .exit 0
theorem gapC_own {N M:Nat} {s:Sp} {w:World} {outs:List Sp} {v:Value} {t:Int} {B:Nat} (hN:N<=w.heap.size) (hB:N<=B) {A A':World} {row:Option Nat} (h:gapC N M s w outs v t A) (hg:A.grownBy A' row)
  (hr:∀ r,row=some r->B<=r/\∃ o:Obj,A.heap[r]? =some o/\o.isCells=false):gapC N M s w outs v t A':=by
 have hr2:=fun r e=>(hr r e).2;obtain ⟨h1,h2,h3,h4,h5,h6⟩:=h;exact ⟨h1.own hg hr2,h2.own hg hr2,h3.own hg hr2,h4.own hg hr2,h5.own hg hr2,below_own h6 hg hr hN hB⟩
theorem gapI_own {N M:Nat} {s:Sp} {w:World} {L:List Sp} {B:Nat} (hN:N<=w.heap.size) (hB:N<=B):OwnFrom B (gapI N M s w L):=fun _ _ _ _ ⟨outs,v,t,h,r⟩ hg hr=>⟨outs,v,t,gapC_own hN hB h hg hr,r⟩
theorem gapX_own {N M:Nat} {s:Sp} {w:World} {L:List Sp} {B:Nat} (hN:N<=w.heap.size) (hB:N<=B) (c:Code):OwnFrom B (gapX N M s w L c):=fun _ _ _ _ ⟨outs,v,t,h,r⟩ hg hr=>⟨outs,v,t,gapC_own hN hB h hg hr,r⟩
theorem gapC_alloc {N M:Nat} {s:Sp} {w:World} {outs:List Sp} {v:Value} {t:Int} {W:World} (h:gapC N M s w outs v t W) (hN:N<=W.heap.size) (o:Obj):gapC N M s w outs v t (W.alloc o):=by
 obtain ⟨h1,h2,h3,h4,h5,h6⟩:=h;exact ⟨h1.alloc o,h2.alloc o,h3.alloc o,h4.alloc o,h5.alloc o,h6.alloc hN o⟩
theorem gapC_with {N M:Nat} (hNM:N<M) {s:Sp} {w:World} {outs outs':List Sp} {v v':Value} {t:Int} {W W':World} (h:gapC N M s w outs v t W) (hg:W.grownBy W' v.ownBlock) (ho:OwnSp W' (M+2) v' outs') (hN:N<=w.heap.size) :
  gapC N M s w outs' v' t (W'.setCell ⟨M,0,none⟩ v'):=by
 obtain ⟨h1,h2,h3,h4,h5,h6⟩:=h;have hne:∀ k,k<M+2->v.ownBlock≠some k:=fun k hk e=>by have:=(h5.lt k e).1;omega
 have hne':v'.ownBlock≠some M:=fun e=>by have:=(ho.lt M e).1;omega
 refine ⟨(h1.grown hg (hne _ (by omega))).ob _ (by omega),(h2.grown hg (hne _ (by omega))).ob _ (by omega),(h3.grown hg (hne _ (by omega))).set _,(h4.grown hg (hne _ (by omega))).ob _ (by omega),ho.setCell _ _ _ hne',?_⟩;refine (h6.trans (grown_below hg ?_ (fun k e=> ?_))).setCell (p:=⟨M,0,none⟩) (by show N<=M;omega) _
 ·have:=h6.size;omega
 have:=(h5.lt k e).1;omega
theorem gapC_at {N M:Nat} (hNM:N<M) {s:Sp} {w:World} {outs:List Sp} {v:Value} {t:Int} {W:World} (h:gapC N M s w outs v t W) (u:Int):gapC N M s w outs v u (W.setCell ⟨M+1,0,none⟩ (.int .i64 u)):=by
 obtain ⟨h1,h2,h3,h4,h5,h6⟩:=h;have hne:v.ownBlock≠some (M+1):=fun e=>by have:=(h5.lt _ e).1;omega
 exact ⟨h1.ob _ (by omega),h2.ob _ (by omega),h3.ob _ (by omega),h4.set _,h5.setCell _ _ _ hne,h6.setCell (p:=⟨M+1,0,none⟩) (by show N<=M+1;omega) _⟩
set_option maxHeartbeats 1000000 in
theorem gaps_any (w:World) (n₀:Nat) (a:Option Addr) (cap:Nat) (L:List Sp) (s:Sp) (hc:SpAt w n₀ a L) (hn:n₀<=w.heap.size) :
  Calls Tryz.prog 213 #[.slice a L.length cap,.agg #[.int .i64 s.1,.int .i64 s.2]] w fun e w'=>∃ v,e= .returned v/\OwnSp w' w.heap.size v (gapsL L s)/\Below w.heap.size w w':=by
 obtain ⟨s1,s2⟩:=s;have hb:=(((Below.refl w.heap.size w).alloc (Nat.le_refl _) (.cells #[.int .i64 s1,.int .i64 s2] 92)).alloc (by simp) (.cells #[.slice a L.length cap] 224)).alloc (by simp;omega) (.cells #[.slice a L.length cap] 224);have HB:=hid hb;have HS:=hid (hc.below (hb.mono hn));have hsm:=hc.small;clear hb hc;refine (callsIn_wide (n:=4)).1 ?_;refine callsIn_of_wp_marks Tryz.func213 rfl trivial ?_ rfl;simp only [Tryz.ntmps213,List.size_toArray,List.length_cons,List.length_nil,Nat.reduceAdd,Nat.reduceSub,Array.replicate_succ,Array.replicate_zero,List.push_toArray,List.append_toArray,List.nil_append,List.cons_append];refine wpIn_wide.2 ?_;go_wp2_with fail
 go_step3
 go_wp2_with fail;refine (of_any _ _ _ _ _ rfl).mono ?_;rintro e w1 ⟨rfl,rfl⟩;go_wp2_with fail;refine (takes_any _ n₀ a cap L (s1,s2) HS.out (by have:=HB.out.size;omega)).mono ?_;rintro e w2 ⟨rfl,hb2⟩;have hA0:At w.heap.size 0 (.int .i64 s1) w2:=((((At.new (W:=w) (vs:= #[.int .i64 s1,.int .i64 s2]) 92 rfl rfl).alloc _).alloc _).below hb2 (by simp;omega));have hA1:At w.heap.size 1 (.int .i64 s2) w2:=((((At.new (W:=w) (vs:= #[.int .i64 s1,.int .i64 s2]) 92 rfl rfl).alloc _).alloc _).below hb2 (by simp;omega));have hz:At (w.heap.size+1+1) 0 (.slice a L.length cap) w2:=((At.new (W:=(w.alloc (.cells #[.int .i64 s1,.int .i64 s2] 92)).alloc (.cells #[.slice a L.length cap] 224)) (vs:= #[.slice a L.length cap]) 224 (by simp) rfl).below hb2 (by simp));have HS2:=hid (HS.out.below (hb2.mono (by have:=HB.out.size;omega)));have HB2:=hid (HB.out.trans (hb2.mono HB.out.size));have hsz:=hb2.size
 simp at hsz
 clear hb2 HB HS
 cases htk:takesB L (s1,s2) with
 | false =>
  go_wp2_with fail;rw [Exit.noGoto_ret];refine ret_plain rfl ⟨_,rfl,?_,HB2.out⟩;unfold gapsL;rw [htk];exact OwnSp.nil _ _
 | true =>
  have q0:=(hA0.alloc (.cells #[.slice none 0 0] 41)).1;have q1:=((hz.alloc (.cells #[.slice none 0 0] 41)).alloc (.cells #[.int .i64 s1] 3)).1;go_wp2_with fail
  go_step3
  go_wp2_with fail;refine (wpIn_wide (n:=4)).1 ?_
  refine wp_each (n₀:=n₀) (by omega) rfl rfl (HS2.out.below (((Below.refl n₀ w2).alloc (by omega) _).alloc (by simp;omega) _)) (by simp;omega)
   (gapI w.heap.size w2.heap.size (s1,s2) w L) (gapX w.heap.size w2.heap.size (s1,s2) w L) (gapI_own (Nat.le_refl _) (by simp;omega)) (gapX_own (Nat.le_refl _) (by simp;omega)) ?start ?round ?done ?stop
  case start =>
   refine ⟨[],.slice none 0 0,s1,⟨(hA0.alloc _).alloc _,(hA1.alloc _).alloc _,(At.new _ rfl rfl).alloc _,At.new _ (by simp) rfl,OwnSp.nil _ _,(HB2.out.alloc (by omega) _).alloc (by simp;omega) _⟩,Nat.zero_le _,rfl⟩
  case round =>
   rintro l k hk W hl ⟨outs,v,t,hC,hlen,hgap⟩;have hWs:w2.heap.size+1<W.heap.size:=hC.2.2.2.1.lt;have HV:=hid (hC.2.2.2.2.1.lt);have HI:=hid hC;have HG:=hid hgap;have HD:=hid (gapsF_drop (t:=s2) (at':=t) hk);obtain ⟨va,vc,rfl,-⟩:=hC.2.2.2.2.1.at (by omega);clear hC hgap q0 q1 hz hA0 hA1
   gi_wp2
   refine ⟨(KeepsOthers.alloc _ _).from _,(Below.refl n₀ W).alloc (by omega) _,fun _ W2=>gapC w.heap.size w2.heap.size (s1,s2) w outs (.slice va outs.length vc) t W2/\At W.heap.size 0 (.int .i64 L[k].1) W2/\At W.heap.size 1 (.int .i64 L[k].2) W2,?_,⟨gapC_alloc HI.out (by omega) _,At.new _ rfl rfl,At.new _ rfl rfl⟩,?_⟩
   ·intro _ A A' row h hg hr;exact ⟨gapC_own (B:=_) (Nat.le_refl _) (by first | omega | (simp;omega)) h.1 hg hr,h.2.1.own hg (fun r e=>(hr r e).2),h.2.2.own hg (fun r e=>(hr r e).2)⟩
   rintro W2 ⟨hC,⟨x0,f0⟩,⟨x1,f1⟩⟩;obtain ⟨⟨d0,e0⟩,⟨d1,e1⟩,⟨d2,e2⟩,⟨d3,e3⟩,-⟩:=id hC;have HC:=hid hC;clear HI hC;by_cases c1:L[k].2<=t
   ·gi_wp2_with fail
    exact ⟨KeepsFrom.refl _ _,Below.refl _ _,outs,_,t,HC.out,by omega,by rw [HG.out,HD.out,if_pos c1]⟩
   have HN1:=hid (Int.not_le.1 c1);by_cases c2:s2<=L[k].1
   ·gi_wp2_with fail
    exact ⟨KeepsFrom.refl _ _,outs,_,t,HC.out,hlen,by rw [HG.out,HD.out,if_neg (Int.not_le.2 HN1.out),if_pos c2],rfl⟩
   have HN2:=hid (Int.not_le.1 c2)
   gi_wp2_with fail
   have hW2:w2.heap.size+1<W2.heap.size:=HC.out.2.2.2.1.lt;have HAL:=hid (fun o=>gapC_alloc HC.out (by omega) o);refine ⟨trivial,(CallsIn.inRound l (callsIn_wide.2 (with_any (W2.alloc (.cells #[.int .i64 t,.int .i64 L[k].1] 92)) (w2.heap.size+2) (W2.heap.size+1) (.slice va outs.length vc) outs _ _ [(t,L[k].1)] (HAL.out _).2.2.2.2.1 (by omega) (by simp;omega) ⟨by simp,fun _=>⟨W2.heap.size,0,rfl,by omega,fun i hi=> ?_⟩⟩ (by simp) ?_))).mono ?_⟩
   ·obtain rfl:i=0:=by simpa using hi
    simp
   ·intro _ ad e
    cases e
    intro e;have:=(HC.out.2.2.2.2.1.lt _ e).2
    simp at this
   rintro e W3 ⟨v',rfl,ho,hg,-⟩;rw [withL_one] at ho;have hol:=one_le t L[k].1;obtain ⟨va',vc',hv',-⟩:=ho.at (by rw [List.length_append];omega);have hC3:=gapC_with (by omega) (HAL.out (.cells #[.int .i64 t,.int .i64 L[k].1] 92)) hg ho (Nat.le_refl _);have hne:∀ b,b<w2.heap.size+2∨W.heap.size<=b->(Value.slice va outs.length vc).ownBlock≠some b:=fun b hb e=>by have:=HV.out _ e;omega
   obtain ⟨y1,-⟩:=((show At W.heap.size 1 (.int .i64 L[k].2) W2 from ⟨x1,f1⟩).alloc (.cells #[.int .i64 t,.int .i64 L[k].1] 92)).grown hg (hne _ (by omega));obtain ⟨z0,g0⟩:=(HAL.out (.cells #[.int .i64 t,.int .i64 L[k].1] 92)).2.2.1.grown hg (hne _ (by omega));obtain ⟨z1,g1⟩:=(HAL.out (.cells #[.int .i64 t,.int .i64 L[k].1] 92)).2.2.2.1.grown hg (hne _ (by omega));have hk3:=((KeepsOthers.alloc W2 (.cells #[.int .i64 t,.int .i64 L[k].1] 92)).trans (keeps_own (HAL.out _).2.2.2.2.1 hg));have hb3:Below n₀ W2 W3:=((Below.refl n₀ W2).alloc (by omega) _).trans (grown_below hg (by simp;omega) (fun b e=>by have:=HV.out _ e;omega));have HK3:=hid hk3;have HB3:=hid hb3;have HC4:=hid (gapC_at (by omega) hC3 L[k].2);have hlen':(outs++one t L[k].1).length<=k+1:=by rw [List.length_append];omega
   clear hC3 hk3 hb3 hg hne HAL HC HV d0 d1 d2 d3 e0 e1 e2 e3 x0 x1 f0 f1 ho;generalize (outs++one t L[k].1).length=nl at hv';subst hv'
   gi_wp2_with fail
   refine ⟨(HK3.out.trans ((KeepsOthers.setCell _ _ _).trans (KeepsOthers.setCell _ _ _))).from _,(HB3.out.setCell (p:=⟨w2.heap.size,0,none⟩) (by show n₀<=w2.heap.size;omega) _).setCell (p:=⟨w2.heap.size+1,0,none⟩) (by show n₀<=w2.heap.size+1;omega) _,_,_,_,HC4.out,hlen',?_⟩;rw [HG.out,HD.out,if_neg (Int.not_le.2 HN1.out),if_neg (Int.not_le.2 HN2.out),List.append_assoc]
  case done =>
   rintro D W hD ⟨outs,v,t,hC,hlen,hgap⟩ hDf;rw [List.drop_length] at hgap;have hD2:w.heap.size<=D:=by simp at hD;omega
   obtain ⟨va,vc,rfl,-⟩:=hC.2.2.2.2.1.at (by omega);obtain ⟨⟨d0,e0⟩,⟨d1,e1⟩,⟨d2,e2⟩,⟨d3,e3⟩,-⟩:=id hC;have HC:=hid hC;have HG:=hid hgap;have HDF:=hid hDf;have HAL:=hid (fun o=>gapC_alloc hC (by have:=hC.1.lt;omega) o);have hW2:w2.heap.size+1<W.heap.size:=hC.2.2.2.1.lt;clear hC hgap hDf hD q0 q1 hz hA0 hA1;go_wp2_with fail;refine (with_any (W.alloc (.cells #[.int .i64 t,.int .i64 s2] 92)) (w2.heap.size+2) (W.heap.size+1) (.slice va outs.length vc) outs _ _ [(t,s2)] (HAL.out _).2.2.2.2.1 (by omega) (by simp;omega) ⟨by simp,fun _=>⟨W.heap.size,0,rfl,by omega,fun i hi=> ?_⟩⟩ (by simp) ?_).mono ?_
   ·obtain rfl:i=0:=by simpa using hi
    simp
   ·intro _ ad e
    cases e
    intro e;have:=(HC.out.2.2.2.2.1.lt _ e).2
    simp at this
   rintro e W3 ⟨v',rfl,ho,hg,-⟩;rw [withL_one] at ho;have hD3:=((KeepsOthers.alloc W (.cells #[.int .i64 t,.int .i64 s2] 92)).trans (keeps_own (HAL.out _).2.2.2.2.1 hg)).same D _ HDF.out rfl;have hb3:Below w.heap.size w W3:=(HAL.out _).2.2.2.2.2.trans (grown_below hg (by simp;omega) (fun b e=>by have:=(HC.out.2.2.2.2.1.lt _ e).1;omega));have HD3:=hid hD3;have HB3:=hid hb3;have HO:=hid ho;clear hD3 hb3 ho hg d0 d1 d2 d3 e0 e1 e2 e3;go_wp2_with fail;rw [Exit.noGoto_ret];refine ret_marks rfl HD3.out ⟨_,rfl,?_,below_take HB3.out (Nat.le_refl _) hD2⟩;unfold gapsL;rw [if_pos htk,HG.out];exact (HO.out.own (grownBy_putObj' W3 D _) (fun r e=>by cases e;exact ⟨_,HD3.out,rfl⟩)).mono (by omega)
  case stop =>
   rintro D c k W hD hk ⟨outs,v,t,hC,hlen,hgap,rfl⟩ hDf;have hD2:w.heap.size<=D:=by simp at hD;omega
   obtain ⟨va,vc,rfl,-⟩:=hC.2.2.2.2.1.at (by omega);obtain ⟨⟨d0,e0⟩,⟨d1,e1⟩,⟨d2,e2⟩,⟨d3,e3⟩,-⟩:=id hC;have HC:=hid hC;have HG:=hid hgap;have HDF:=hid hDf;have HAL:=hid (fun o=>gapC_alloc hC (by have:=hC.1.lt;omega) o);have hW2:w2.heap.size+1<W.heap.size:=hC.2.2.2.1.lt;clear hC hgap hDf hD q0 q1 hz hA0 hA1;refine wpIn_wide.2 ?_;go_wp2_with fail;refine (with_any (W.alloc (.cells #[.int .i64 t,.int .i64 s2] 92)) (w2.heap.size+2) (W.heap.size+1) (.slice va outs.length vc) outs _ _ [(t,s2)] (HAL.out _).2.2.2.2.1 (by omega) (by simp;omega) ⟨by simp,fun _=>⟨W.heap.size,0,rfl,by omega,fun i hi=> ?_⟩⟩ (by simp) ?_).mono ?_
   ·obtain rfl:i=0:=by simpa using hi
    simp
   ·intro _ ad e
    cases e
    intro e;have:=(HC.out.2.2.2.2.1.lt _ e).2
    simp at this
   rintro e W3 ⟨v',rfl,ho,hg,-⟩;rw [withL_one] at ho;have hD3:=((KeepsOthers.alloc W (.cells #[.int .i64 t,.int .i64 s2] 92)).trans (keeps_own (HAL.out _).2.2.2.2.1 hg)).same D _ HDF.out rfl;have hb3:Below w.heap.size w W3:=(HAL.out _).2.2.2.2.2.trans (grown_below hg (by simp;omega) (fun b e=>by have:=(HC.out.2.2.2.2.1.lt _ e).1;omega));have HD3:=hid hD3;have HB3:=hid hb3;have HO:=hid ho;clear hD3 hb3 ho hg d0 d1 d2 d3 e0 e1 e2 e3;go_wp2_with fail;rw [Exit.noGoto_ret];refine ret_marks rfl HD3.out ⟨_,rfl,?_,below_take HB3.out (Nat.le_refl _) hD2⟩;unfold gapsL;rw [if_pos htk,HG.out];exact (HO.out.own (grownBy_putObj' W3 D _) (fun r e=>by cases e;exact ⟨_,HD3.out,rfl⟩)).mono (by omega)
end
section
open Go.RowKit Go.Shelf
theorem flatV_cells {w:World} {n b off:Nat} {M:List Sp} (h:SpAt w n (some ⟨b,off,none⟩) M):∀ j u,(flatV M)[j]? =some u->w.cell? ((⟨b,off,none⟩:Addr).add j)=some u:=by
 intro j u hj;have hl:j<(flatV M).length:=(List.getElem?_eq_some_iff.1 hj).1;rw [flatV_length] at hl;obtain ⟨b',off',e,_,hc⟩:=h.cells (by omega)
 cases e
 have hi:j/2<M.length:=by omega
 obtain ⟨f1,f2⟩:=flatV_get M (j/2) hi;obtain ⟨c1,c2⟩:=hc (j/2) hi;rw [Addr.add_lit];by_cases hp:j%2=0
 ·rw [show j/2*2=j by omega] at f1 c1;rw [f1] at hj
  cases hj
  exact c1
 rw [show j/2*2+1=j by omega] at f2;rw [Nat.add_assoc,show j/2*2+1=j by omega] at c2;rw [f2] at hj
 cases hj
 exact c2
theorem wpList_append_spans (w:World) {ops:Array Oper} {rest:List Oper} {o:Oper} {a:Act} {Q:Exit->Act->World->Prop} (hgd:o.guard=none) (s x:Operand)
  (ho:o.op= .call { callee:=.builtin .append,args:= #[s,x],argTypes:= #[41,41] }) (base:Nat)
  (v:Value) (L:List Sp) (hs:a.eval s=v) (hown:OwnSp w base v L)
  (b off c:Nat) (M:List Sp) (hx:a.eval x= .slice (some ⟨b,off,none⟩) M.length c) (hM:SpAt w w.heap.size (some ⟨b,off,none⟩) M) (hL:L.length+M.length<=4398046511104) (hbase:base<=w.heap.size)
  (h:∀ v' w',OwnSp w' base v' (L++M)->w.grownBy w' v.ownBlock->(v'.ownBlock=v.ownBlock∨∃ k,v'.ownBlock=some k/\w.heap.size<=k)->wpList Tryz.prog ops Q rest (a.put o.dst v') w'):wpList Tryz.prog ops Q (o::rest) a w:=by
 obtain ⟨i0,hi,hz0,hz1,hz2⟩:=info_parts spanInfo
 obtain ⟨v',w',hr,h2,h3,h4⟩:=run_append_own2 (P:=Tryz.prog) w base 41 o.type 92 i0 _ 2 16 Tryz.underlying41 hi hz0 hz1 hz2 rfl (by decide) v L.length (flatV L) hown ⟨b,off,none⟩ M.length c (flatV M) (flatV_length M)
  (flatV_cells hM) (flatV_one M) (by unfold maxLen;omega) (by omega) hbase
 refine wpList_plain hgd fun K hK=> ?_;unfold Oper.wp execOp;simp only [ho,resolve,invoke,builtin,Sem.run_bind,Sem.run_pure,Result.andThen_ok,List.map_toArray,List.map_cons,List.map_nil,hs,hx,hr];refine hK _ _ (h v' w' ?_ h3 h4);show w'.ownsRow _ _ _ _ _ _;rw [List.length_append,flatV_append];exact h2
theorem own_empty (w:World):OwnSp (w.alloc (.cells #[] 92)) w.heap.size (.slice (some ⟨w.heap.size,0,none⟩) 0 0) []:=by
 refine ⟨rfl,.inr ⟨w.heap.size,0,#[],rfl,Nat.le_refl _,heap_alloc_new _ _,Nat.le_refl _,?_,?_,rfl⟩⟩
 ·unfold maxLen;omega
 rfl
theorem clone_nil (c:Nat) (w:World) :
  Calls Tryz.prog 180 #[.slice none 0 c] w fun e w'=>e= .returned (.slice none 0 0)/\w=w':=by
 have kn:=fun (w:World) (a:Option Addr) (n c:Nat)=>Lib.run_eql_slice_nil (P:=Tryz.prog) w 41 92 a n c 0 0 Tryz.underlying41
 go_enter Tryz.func180,Tryz.ntmps180
 go_wp2_with fail;go_ret;exact ⟨rfl,rfl⟩
theorem clone_some (b off:Nat) (c:Nat) (L:List Sp) (w:World) (h:SpAt w w.heap.size (some ⟨b,off,none⟩) L) :
  Calls Tryz.prog 180 #[.slice (some ⟨b,off,none⟩) L.length c] w fun e w'=>∃ v,e= .returned v/\OwnSp w' w.heap.size v L/\Below w.heap.size w w':=by
 have kn:=fun (w:World) (a:Option Addr) (n c:Nat)=>Lib.run_eql_slice_nil (P:=Tryz.prog) w 41 92 a n c 0 0 Tryz.underlying41
 go_enter Tryz.func180,Tryz.ntmps180
 have HS:=hid h;have hsm:=h.small;clear h
 go_wp2_with (at_builtin;refine wpList_append_spans _ rfl _ _ rfl w.heap.size _ [] rfl (own_empty w) b off c L rfl (by exact (HS.out.below ((Below.refl _ w).alloc (Nat.le_refl _) _)).mono (by simp)) (by simp;omega) (by simp) ?_)
 intro v' w1 hown hg hb;have HO:=hid hown;have HB:Hid (Below w.heap.size w w1):=hid (((Below.refl _ w).alloc (Nat.le_refl _) _).trans (grown_below hg (by simp) (fun k e=>by cases e;exact Nat.le_refl _)));clear hown hg hb;go_wp2_with fail;go_ret;exact ⟨v',rfl,HO.out,HB.out⟩
end
section
open Go.RowKit Go.Shelf
structure WI (N X:Nat) (x1 x2:Int) (w:World) (v:Value) (out:List Sp) (W:World):Prop where
 own:OwnSp W N v out
 x0:At X 0 (.int .i64 x1) W
 x1:At X 1 (.int .i64 x2) W
 ne:v.ownBlock≠some X
 below:Below N w W
theorem WI.new {N:Nat} {w W:World} {v:Value} {out:List Sp} (h:OwnSp W N v out) (hb:Below N w W) (hN:N<=W.heap.size) (x1 x2:Int):WI N W.heap.size x1 x2 w v out (W.alloc (.cells #[.int .i64 x1,.int .i64 x2] 92)) :=
 ⟨h.alloc _,At.new _ rfl rfl,At.new _ rfl rfl,fun e=>by have:=(h.lt _ e).2;omega,hb.alloc hN _⟩
theorem WI.cells {N X:Nat} {x1 x2:Int} {w:World} {v:Value} {out:List Sp} {W:World} (h:WI N X x1 x2 w v out W):W.cell? ⟨X,0,none⟩=some (.int .i64 x1)/\W.cell? ⟨X,1,none⟩=some (.int .i64 x2):=⟨h.x0.1,h.x1.1⟩
theorem WI.drewN {N X:Nat} {x1 x2:Int} {w:World} {v:Value} {out:List Sp} {W:World} (h:WI N X x1 x2 w v out W) (n:Nat):WI N X x1 x2 w v out (W.drewN n) :=
 ⟨h.own,h.x0,h.x1,h.ne,⟨h.below.os,h.below.tape,h.below.output,h.below.size,h.below.block⟩⟩
theorem WI.alloc {N X:Nat} {x1 x2:Int} {w:World} {v:Value} {out:List Sp} {W:World} (h:WI N X x1 x2 w v out W) (hN:N<=W.heap.size) (o:Obj):WI N X x1 x2 w v out (W.alloc o) :=
 ⟨h.own.alloc _,h.x0.alloc _,h.x1.alloc _,h.ne,h.below.alloc hN _⟩
theorem WI.app {N X:Nat} {x1 x2:Int} {w:World} {v v':Value} {out out':List Sp} {W W':World} (h:WI N X x1 x2 w v out W) (hN:N<=w.heap.size) (ho:OwnSp W' N v' out') (hg:W.grownBy W' v.ownBlock) (hb:v'.ownBlock=v.ownBlock∨∃ k,v'.ownBlock=some k/\W.heap.size<=k):WI N X x1 x2 w v' out' W':=by
 refine ⟨ho,h.x0.grown hg h.ne,h.x1.grown hg h.ne,?_,h.below.trans (grown_below hg (Nat.le_trans hN h.below.size) (fun k e=>(h.own.lt k e).1))⟩
 rcases hb with e | ⟨k,e,hk⟩
 ·rw [e];exact h.ne
 rw [e];intro e2;cases e2;have:=h.x0.lt;omega
theorem canonF_take2 {e:Int} {L:List Sp} (h:canonF e L=true) (k:Nat):canonF e (L.take k)=true:=by
 induction L generalizing e k with
 | nil=>rw [List.take_nil];rfl
 | cons x l ih =>
  cases k with
  | zero=>rfl
  | succ k=>rw [canonF_cons] at h;rw [List.take_succ_cons,canonF_cons];exact ⟨h.1,ih h.2 k⟩
theorem cell_grown {W W':World} {r:Option Nat} {B i:Nat} {v:Value} (hg:W.grownBy W' r) (hc:W.cell? ⟨B,i,none⟩=some v) (hr:r≠some B):W'.cell? ⟨B,i,none⟩=some v :=
 (World.cell?_of_block (a:=⟨B,i,none⟩) (hg.block B (block_lt_of_cell hc) (fun e=>hr e.symm))).trans hc
end
section
open Go.RowKit Go.Shelf
theorem step_append_span {w:World} {ops:Array Oper} {o:Oper} {a:Act} {K:Act->World->Prop} {Q:Exit->Act->World->Prop} {E:Prop} (hgd:o.guard=none) (s x:Operand)
  (ho:o.op= .call { callee:=.builtin .append,args:= #[s,x],argTypes:= #[41,41] }) (base:Nat)
  (v:Value) (L:List Sp) (hs:a.eval s=v) (hown:OwnSp w base v L) (hL:L.length<=4398046511104)
  (b:Nat) (y:Sp) (hx:a.eval x= .slice (some ⟨b,0,none⟩) 1 1) (hc0:w.cell? ⟨b,0,none⟩=some (.int .i64 y.1)) (hc1:w.cell? ⟨b,1,none⟩=some (.int .i64 y.2)) (hbase:base<=w.heap.size)
  (h:∀ v' w',OwnSp w' base v' (L++[y])->w.grownBy w' v.ownBlock->(v'.ownBlock=v.ownBlock∨∃ k,v'.ownBlock=some k/\w.heap.size<=k)->K (a.put o.dst v') w') :
  if Region.wanted o (yielded ops a.tmps)=true then Oper.wp Tryz.prog o a w K Q else E:=by
 have hw:Region.wanted o (yielded ops a.tmps)=true:=by simp [Region.wanted,hgd]
 rw [if_pos hw];obtain ⟨i0,hi,hz0,hz1,hz2⟩:=info_parts spanInfo
 obtain ⟨v',w',hr,h2,h3,h4⟩:=run_append_own2 (P:=Tryz.prog) w base 41 o.type 92 i0 _ 2 16 Tryz.underlying41 hi hz0 hz1 hz2 rfl (by decide) v L.length (flatV L) hown ⟨b,0,none⟩ 1 1 [.int .i64 y.1,.int .i64 y.2] rfl
  (by intro j u hj;match j,hj with
   | 0,hj=>simp at hj;subst hj;exact hc0
   | 1,hj=>simp at hj;subst hj;simpa [Addr.add] using hc1) (by intro u hu;simp at hu;rcases hu with rfl | rfl <;> rfl) (by unfold maxLen;omega) (by omega) hbase
 unfold Oper.wp execOp;simp only [ho,resolve,invoke,builtin,Sem.run_bind,Sem.run_pure,Result.andThen_ok,List.map_toArray,List.map_cons,List.map_nil,hs,hx,hr];refine h v' w' ?_ h3 h4;show w'.ownsRow _ _ _ _ _ _;rw [List.length_append,flatV_append];exact h2
theorem run_append_zero {P:Program} (w:World) (t ty e:TypeId) (i:TypeInfo) (hi:P.info? e=some i) (ht:P.underlying t=some (.slice e)) (ad:Option Addr) (n cap:Nat) (hn:n<=cap) (ax:Option Addr) (c:Nat) :
  (Builtin.append_ #[t,t] ty #[.slice ad n cap,.slice ax 0 c]).run P w= .ok (.slice ad n cap) w:=by
 cases ax with
 | none=>cases ad <;> simp [Builtin.append_,run_underlying ht,Builtin.lenOf,hn,sizeOf,typeInfo,hi,run_firstCells_none,storeCells]
 | some x =>
  have hf:=run_firstCells_some (P:=P) w i.size 0 x 0 c [] (by simp) (by simp)
  cases ad <;> simp [Builtin.append_,run_underlying ht,Builtin.lenOf,hn,sizeOf,typeInfo,hi,hf,storeCells]
end
end Go.Proofs.YtclkcmidhhfdmaaGreatDoor
