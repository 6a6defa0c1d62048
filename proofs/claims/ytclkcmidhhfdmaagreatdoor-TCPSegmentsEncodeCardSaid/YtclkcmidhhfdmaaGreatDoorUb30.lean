import Derived.Test.YtclkcmidhhfdmaaGreatDoorUb5
import Derived.Deep.RegionHeld3
namespace Go.Proofs.YtclkcmidhhfdmaaGreatDoor
open Lib (hid)
section
set_option maxRecDepth 100000
open Go.RowKit
theorem kW (n:Int)(w:World)(h:1<=n/\n<=65535):Calls Tryz.prog 94 #[n] w fun e w'=>e= .returned true/\w=w':=by
 obtain⟨h1,h2⟩:=h
 go_enter Tryz.func94,Tryz.ntmps94
 go_wp2
 go_ret;exact⟨rfl,rfl⟩
theorem dq (n:Int)(w:World)(h:0<=n/\n<=4294967295):Calls Tryz.prog 95 #[n] w fun e w'=>e= .returned true/\w=w':=by
 obtain⟨h1,h2⟩:=h
 go_enter Tryz.func95,Tryz.ntmps95
 go_wp2
 go_ret;exact⟨rfl,rfl⟩
theorem ub (n:Int)(w:World)(h:0<=n/\n<=4294967295):Calls Tryz.prog 87 #[n] w fun e w'=>e= .returned true/\w=w':=by
 obtain⟨h1,h2⟩:=h
 go_enter Tryz.func87,Tryz.ntmps87
 go_wp2
 go_ret;exact⟨rfl,rfl⟩
def kX (B:Nat)(g:Sg)(a:Option Addr)(cap:Nat)(S:ByteArray)(W:World):Prop:=W.heap[B]? =some (.cells #[g.fp,g.tp,g.sq,g.ak,g.syn,g.fin,g.rst,g.has,g.win,g.mss,g.sacks,.slice a g.bl.length cap,.string S] 43 (0,0))
theorem kX.new (w:World)(g:Sg)(a:Option Addr)(cap:Nat)(S:ByteArray):kX w.heap.size g a cap S (w.alloc (.cells #[g.fp,g.tp,g.sq,g.ak,g.syn,g.fin,g.rst,g.has,g.win,g.mss,g.sacks,.slice a g.bl.length cap,.string S] 43)):=heap_alloc_new _ _
theorem kX.lt {B:Nat}{g:Sg}{a:Option Addr}{cap:Nat}{S:ByteArray}{W:World}(h:kX B g a cap S W):B<W.heap.size:=(Array.getElem?_eq_some_iff.1 h).1
theorem kX.below {B N:Nat}{g:Sg}{a:Option Addr}{cap:Nat}{S:ByteArray}{W W':World}(h:kX B g a cap S W)(hb:Below N W W')(hB:B<N):kX B g a cap S W':=(hb.block B hB).trans h
theorem kX.cells {B:Nat}{g:Sg}{a:Option Addr}{cap:Nat}{S:ByteArray}{W:World}(h:kX B g a cap S W) :
  W.cell? B=some (g.fp:Y)/\W.cell? ⟨B,1,none⟩=some (g.tp:Y)/\W.cell? ⟨B,2,none⟩=some (g.sq:Y)/\W.cell? ⟨B,3,none⟩=some (g.ak:Y)/\W.cell? ⟨B,4,none⟩=some (g.syn:Y)/\W.cell? ⟨B,5,none⟩=some (g.fin:Y)/\W.cell? ⟨B,6,none⟩=some (g.rst:Y)/\W.cell? ⟨B,7,none⟩=some (g.has:Y)/\W.cell? ⟨B,8,none⟩=some (g.win:Y)/\W.cell? ⟨B,9,none⟩=some (g.mss:Y)/\W.cell? ⟨B,10,none⟩=some (g.sacks:Y)/\W.cell? ⟨B,11,none⟩=some (.slice a g.bl.length cap)/\W.cell? ⟨B,12,none⟩=some (.string S):=by
 have c:∀i v,(#[g.fp,g.tp,g.sq,g.ak,g.syn,g.fin,g.rst,g.has,g.win,g.mss,g.sacks,.slice a g.bl.length cap,.string S]:Array Value)[i]? =some v->W.cell? ⟨B,i,none⟩=some v:=fun i v hv=>by rw[cell_of_row _ _ _ _ _ _ h];exact hv
 exact⟨c 0 _ rfl,c 1 _ rfl,c 2 _ rfl,c 3 _ rfl,c 4 _ rfl,c 5 _ rfl,c 6 _ rfl,c 7 _ rfl,c 8 _ rfl,c 9 _ rfl,c 10 _ rfl,c 11 _ rfl,c 12 _ rfl⟩
theorem ap (w:World)(o:Obj):Below w.heap.size w (w.alloc o):=(Below.refl _ w).alloc (Nat.le_refl _) o
set_option maxHeartbeats 2000000 in
theorem jJ (g:Sg) (a:Option Addr) (cap:Nat) (S:ByteArray) (w:World) (ok:g.Ok) :
  Calls Tryz.prog 51 #[.agg #[g.fp,g.tp,g.sq,g.ak,g.syn,g.fin,g.rst,g.has,g.win,g.mss,g.sacks,.slice a g.bl.length cap,.string S]] w fun e w'=>e= .returned true/\Below w.heap.size w w':=by
 obtain⟨fp,tp,sq,ak,syn,fin,rst,has,win,mss,sacks,bl,s⟩:=g;have HV:=hid ok;have hw:=ok.win;have hh:=ok.has;clear ok;dsimp only at hw hh|-;obtain⟨hw1,hw2⟩:=hw;have HH:=hid hh;clear hh
 have HE:=hid (show has=true\/(ak==0)=true by cases has with
  | true=>exact .inl rfl
  | false=>exact .inr (by rw[beq_iff_eq];exact HH.o rfl))
 clear HH
 rcases HE.o with rfl | hz
 all_goals
  clear HE
  go_enter Tryz.func51,Tryz.ntmps51
  go_wp2_with fail;refine(kW _ _ HV.fp).mono ?_;rintro e w9⟨rfl,rfl⟩;go_wp2_with fail;refine(kW _ _ HV.tp).mono ?_;rintro e w9⟨rfl,rfl⟩;go_wp2_with fail;refine(dq _ _ HV.sq).mono ?_;rintro e w9⟨rfl,rfl⟩;go_wp2_with fail;refine(dq _ _ HV.ak).mono ?_;rintro e w9⟨rfl,rfl⟩
  (first | (cases has <;> go_wp2_with fail) | go_wp2_with fail)
  all_goals
   go_ret;exact⟨rfl,ap _ _⟩
set_option maxHeartbeats 2000000 in
theorem kY (g:Sg) (a:Option Addr) (cap:Nat) (S:ByteArray) (w:World) (ok:g.Ok) :
  Calls Tryz.prog 52 #[.agg #[g.fp,g.tp,g.sq,g.ak,g.syn,g.fin,g.rst,g.has,g.win,g.mss,g.sacks,.slice a g.bl.length cap,.string S]] w fun e w'=>e= .returned true/\Below w.heap.size w w':=by
 obtain⟨fp,tp,sq,ak,syn,fin,rst,has,win,mss,sacks,bl,s⟩:=g;have h1:=ok.fl;have h2:=ok.mss;have h3:=ok.mssS;clear ok;dsimp only at h1 h2 h3|-
 cases syn with
 | false =>
  obtain⟨hm,rfl⟩:=h2 rfl;subst hm;clear h2 h3
  cases fin <;> cases rst
  all_goals (try (exact absurd ⟨rfl,rfl⟩ h1.2.2))
  all_goals
   clear h1
   go_enter Tryz.func52,Tryz.ntmps52
   go_wp2;go_ret;exact⟨rfl,ap _ _⟩
 | true =>
  cases fin with
  | true=>exact absurd ⟨rfl,rfl⟩ h1.1
  | false =>
   cases rst with
   | true=>exact absurd ⟨rfl,rfl⟩ h1.2.1
   | false =>
    have h:=h3 rfl;clear h1 h2 h3
    rcases h with hz | ⟨hm1,hm2⟩
    ·subst hz
     go_enter Tryz.func52,Tryz.ntmps52
     go_wp2;go_ret;exact⟨rfl,ap _ _⟩
    have hz:(mss==0)=false:=beq_eq_false_iff_ne.2 (by omega)
    go_enter Tryz.func52,Tryz.ntmps52
    go_wp2;go_ret;exact⟨rfl,ap _ _⟩
set_option maxHeartbeats 2000000 in
theorem jg (g:Sg) (n₀:Nat) (a:Option Addr) (cap:Nat) (S:ByteArray) (w:World) (ok:g.Ok) (hc:SpAt w n₀ a g.bl) (hn:n₀<=w.heap.size) :
  Calls Tryz.prog 53 #[.agg #[g.fp,g.tp,g.sq,g.ak,g.syn,g.fin,g.rst,g.has,g.win,g.mss,g.sacks,.slice a g.bl.length cap,.string S]] w fun e w'=>e= .returned true/\Below w.heap.size w w':=by
 obtain⟨fp,tp,sq,ak,syn,fin,rst,has,win,mss,sacks,bl,s⟩:=g;have h1:=ok.blen;have h2:=ok.bhas;have HB:=hid ok.blk;clear ok;dsimp only at h1 h2 HB hc|-;have HC:=hid hc;have an:(bl.length:Int)<=3:=by omega
 have HE:=hid (show has=true\/bl.length=0 by
  rcases Nat.eq_zero_or_pos bl.length with e | e
  ·exact .inr e
  exact .inl (h2 e))
 clear hc h2;by_cases hp:0<bl.length
 ·have hhas:has=true:=by rcases HE.o with e | e;exact e;omega
  subst hhas;clear HE;have hpi:(0:Int)<(bl.length:Int):=by omega
  go_enter Tryz.func53,Tryz.ntmps53
  go_wp2_with fail;generalize hW0:w.alloc (.cells #[fp,tp,sq,ak,syn,fin,rst,true,win,mss,sacks,.slice a bl.length cap,.string S] 43)=W0;have aa:=hid (show Below w.heap.size w W0 by rw[<-hW0];exact ap _ _);clear hW0
  go_loopw [23] (fun p wr=>∃k:Nat,k<=bl.length/\p= .int .i64 k/\Below w.heap.size w wr) (fun p _=>bl.length-(intOf p).toNat)
  case atStart=>exact⟨0,Nat.zero_le _,rfl,aa.o⟩
  case round =>
   obtain⟨k,hk,rfl,aF⟩:=hrel;clear aa;have a0:=hid aF;have hws:=aF.size;clear aF;by_cases hlt:k<bl.length
   ·obtain⟨b,off,rfl,hbl,hcs⟩:=HC.cells (by omega);obtain⟨c0,c1⟩:=hcs k hlt;obtain⟨x1,x2,x3⟩:=HB.o _ (List.getElem_mem hlt);have d0:=(a0.cell (p:=⟨b,_,none⟩) (by show b<w.heap.size;omega)).trans c0;have d1:=(a0.cell (p:=⟨b,_,none⟩) (by show b<w.heap.size;omega)).trans c1;clear hcs c0 c1;generalize bl[k]=x at d0 d1 x1 x2 x3;obtain⟨u,v⟩:=x;dsimp only at d0 d1 x1 x2 x3;have b0:=hid x1;have b6:=hid x2;have ad:(u==v)=false:=beq_eq_false_iff_ne.2 x3;have b8:(k:Int)<(bl.length:Int):=by omega
    have hk3:(k:Int)<=3:=by omega
    have ag:=hid (a0.trans ((Below.refl wr.heap.size wr).alloc (Nat.le_refl _) (.cells #[u,v] 92) |>.mono hws));clear x1 x2 x3;go_wp2_with fail;refine(dq _ _ b0.o).mono ?_;rintro e w9⟨rfl,rfl⟩;go_wp2_with fail;refine(dq _ _ b6.o).mono ?_;rintro e w9⟨rfl,rfl⟩;go_wp2_with fail;exact⟨⟨k+1,hlt,by simp,ag.o⟩,by simp[intOf];omega⟩
   go_wp2;go_ret;exact⟨rfl,a0.o⟩
 clear HE;have hpi:¬(0:Int)<(bl.length:Int):=by omega
 go_enter Tryz.func53,Tryz.ntmps53
 go_wp2_with fail;generalize hW0:w.alloc (.cells #[fp,tp,sq,ak,syn,fin,rst,has,win,mss,sacks,.slice a bl.length cap,.string S] 43)=W0;have aa:=hid (show Below w.heap.size w W0 by rw[<-hW0];exact ap _ _);clear hW0
 go_loopw [23] (fun p wr=>∃k:Nat,k<=bl.length/\p= .int .i64 k/\Below w.heap.size w wr) (fun p _=>bl.length-(intOf p).toNat)
 case atStart=>exact⟨0,Nat.zero_le _,rfl,aa.o⟩
 case round =>
  obtain⟨k,hk,rfl,aF⟩:=hrel;clear aa;have a0:=hid aF;have hws:=aF.size;clear aF;by_cases hlt:k<bl.length
  ·exact absurd (show 0<bl.length by omega) hp
  go_wp2;go_ret;exact⟨rfl,a0.o⟩
set_option maxHeartbeats 2000000 in
theorem mZ (g:Sg) (n₀:Nat) (a:Option Addr) (cap:Nat) (S:ByteArray) (w:World) (ok:g.Ok) (hS:S.data.toList=g.s) (hc:SpAt w n₀ a g.bl) (hn:n₀<=w.heap.size) :
  Calls Tryz.prog 26 #[.agg #[g.fp,g.tp,g.sq,g.ak,g.syn,g.fin,g.rst,g.has,g.win,g.mss,g.sacks,.slice a g.bl.length cap,.string S]] w fun e w'=>e= .returned true/\Below w.heap.size w w':=by
 have HN:=hid (fun W=>jJ g a cap S W ok);have HF:=hid (fun W=>kY g a cap S W ok);have HK:=hid (fun W (hb:Below w.heap.size w W)=>jg g n₀ a cap S W ok (hc.below (hb.mono hn)) (Nat.le_trans hn hb.size));have h1:=ok.sS;have h2:=ok.slen;have h3:=ok.blen;have hsz:S.data.toList.length=S.size:=by rw[Array.length_toList];rfl
 rw[hS]at hsz;obtain⟨fp,tp,sq,ak,syn,fin,rst,has,win,mss,sacks,bl,s⟩:=g;dsimp only at h1 h2 h3 hsz HN HF HK|-
 have av:syn=true\/rst=true->S.toList.isEmpty=true:=by
  intro h;have:=h1 h;rw[this]at hsz
  have e:S=⟨#[]⟩:=by
   apply ByteArray.ext
   apply Array.eq_empty_of_size_eq_zero
   exact hsz.symm
  rw[e]
  decide +kernel
 have hl:(S.size:Int)<=1024-8*(bl.length:Int):=by omega
 have ax:=hid av;have HA:=hid (kX.new w ⟨fp,tp,sq,ak,syn,fin,rst,has,win,mss,sacks,bl,s⟩ a cap S);have HB:=hid (ap w (.cells #[fp,tp,sq,ak,syn,fin,rst,has,win,mss,sacks,.slice a bl.length cap,.string S] 43));have an:(bl.length:Int)<=3:=by omega
 clear ok hS hc h1 h2 av hsz
 go_enter Tryz.func26,Tryz.ntmps26
 go_wp2_with fail;refine(HN.o _).mono ?_;rintro e w1⟨rfl,hb1⟩;replace HA:=hid (HA.below hb1 (by simp));replace HB:=hid (HB.trans (hb1.mono HB.size));clear hb1;obtain⟨z0,z1,z2,z3,z4,z5,z6,z7,z8,z9,ab,a7,a9⟩:=HA.cells;dsimp only at z0 z1 z2 z3 z4 z5 z6 z7 z8 z9 ab a7 a9;go_wp2_with fail;refine(HF.o _).mono ?_;rintro e w2⟨rfl,hb2⟩;clear z0 z1 z2 z3 z4 z5 z6 z7 z8 z9 ab a7 a9;replace HA:=hid (HA.below hb2 HA.lt);replace HB:=hid (HB.trans (hb2.mono HB.size));clear hb2;obtain⟨z0,z1,z2,z3,z4,z5,z6,z7,z8,z9,ab,a7,a9⟩:=HA.cells;dsimp only at z0 z1 z2 z3 z4 z5 z6 z7 z8 z9 ab a7 a9;go_wp2_with fail;refine(HK.o _ HB.o).mono ?_;rintro e w3⟨rfl,hb3⟩;clear z0 z1 z2 z3 z4 z5 z6 z7 z8 z9 ab a7 a9;replace HA:=hid (HA.below hb3 HA.lt);replace HB:=hid (HB.trans (hb3.mono HB.size));clear hb3;obtain⟨-,-,-,-,z4,-,z6,-,-,-,-,a7,a9⟩:=HA.cells;dsimp only at z4 z6 a7 a9
 cases syn with
 | true =>
  have he:=ax.o (.inl rfl);go_wp2;go_ret;exact⟨rfl,HB.o⟩
 | false =>
  cases rst with
  | true =>
   have he:=ax.o (.inr rfl);go_wp2;go_ret;exact⟨rfl,HB.o⟩
  | false =>
   go_wp2;go_ret;exact⟨rfl,HB.o⟩
end
section
set_option maxRecDepth 100000
open Go.RowKit
theorem bN {a b:Bool}(h:a=b):Ending.returned a= .returned b:=by rw[h]
theorem kZ (n:Int)(w:World):Calls Tryz.prog 94 #[n] w fun e w'=>e= .returned (decide (1<=n/\n<=65535))/\w=w':=by
 by_cases h1:1<=n
 ·have HR:=hid (show decide (n<=65535)=decide (1<=n/\n<=65535)from decide_eq_decide.2 (by omega))
  go_enter Tryz.func94,Tryz.ntmps94
  go_wp2
  go_ret;exact⟨bN HR.o,rfl⟩
 go_enter Tryz.func94,Tryz.ntmps94
 go_wp2
 go_ret;exact⟨bN (by simp;omega),rfl⟩
theorem dE (n:Int)(w:World):Calls Tryz.prog 95 #[n] w fun e w'=>e= .returned (decide (0<=n/\n<=4294967295))/\w=w':=by
 by_cases h1:0<=n
 ·have HR:=hid (show decide (n<=4294967295)=decide (0<=n/\n<=4294967295)from decide_eq_decide.2 (by omega))
  go_enter Tryz.func95,Tryz.ntmps95
  go_wp2
  go_ret;exact⟨bN HR.o,rfl⟩
 go_enter Tryz.func95,Tryz.ntmps95
 go_wp2
 go_ret;exact⟨bN (by simp;omega),rfl⟩
def Sg.NumB (g:Sg):Bool:=decide ((1<=g.fp/\g.fp<=65535)/\(1<=g.tp/\g.tp<=65535)/\(0<=g.sq/\g.sq<=4294967295)/\(0<=g.ak/\g.ak<=4294967295)/\(g.has=true\/g.ak=0)/\0<=g.win/\g.win<=65535)
def Sg.FlB (g:Sg):Bool:=decide (¬(g.syn=true/\g.fin=true)/\¬(g.syn=true/\g.rst=true)/\¬(g.fin=true/\g.rst=true)/\(g.syn=false->g.mss=0/\g.sacks=false)/\(g.syn=true->g.mss=0\/(28<=g.mss/\g.mss<=1024)))
def Sg.BlB (g:Sg):Bool:=decide (g.bl.length<=3/\(0<g.bl.length->g.has=true)/\∀x∈g.bl,(0<=x.1/\x.1<=4294967295)/\(0<=x.2/\x.2<=4294967295)/\x.1≠x.2)
def Sg.LenB (g:Sg):Bool:=if g.syn=true\/g.rst=true then decide (g.s=[])else decide ((g.s.length:Int)<=1024-8*g.bl.length)
def Sg.okB (g:Sg):Bool:=g.NumB&&(g.FlB&&(g.BlB&&g.LenB))
theorem Sg.okB_iff (g:Sg):g.okB=true↔g.Ok:=by
 unfold Sg.okB Sg.NumB Sg.FlB Sg.BlB Sg.LenB;rw[Bool.and_eq_true,Bool.and_eq_true,Bool.and_eq_true,decide_eq_true_iff,decide_eq_true_iff,decide_eq_true_iff]
 constructor
 ·rintro⟨⟨a1,a2,a3,a4,a5,a6⟩,⟨b1,b2,b3,b4,b5⟩,⟨c1,c2,c3⟩,d⟩;refine⟨a1,a2,a3,a4,?_,a6,⟨b1,b2,b3⟩,b4,b5,c1,c2,c3,?_,?_⟩
  ·intro h;rcases a5 with h' | h'
   ·rw[h]at h';cases h'
   exact h'
  ·intro h;rw[if_pos h]at d;exact of_decide_eq_true d
  by_cases h:g.syn=true\/g.rst=true
  ·rw[if_pos h]at d;rw[of_decide_eq_true d];simp only[List.length_nil];omega
  rw[if_neg h]at d;exact of_decide_eq_true d
 intro h;refine⟨⟨h.fp,h.tp,h.sq,h.ak,?_,h.win⟩,⟨h.fl.1,h.fl.2.1,h.fl.2.2,h.mss,h.mssS⟩,⟨h.blen,h.bhas,h.blk⟩,?_⟩
 ·cases e:g.has with
  | true=>exact .inl rfl
  | false=>exact .inr (h.has e)
 split
 ·rename_i hx;exact decide_eq_true (h.sS hx)
 exact decide_eq_true h.slen
set_option maxHeartbeats 2000000 in
theorem jK (g:Sg) (a:Option Addr) (cap:Nat) (S:ByteArray) (w:World) :
  Calls Tryz.prog 51 #[.agg #[g.fp,g.tp,g.sq,g.ak,g.syn,g.fin,g.rst,g.has,g.win,g.mss,g.sacks,.slice a g.bl.length cap,.string S]] w fun e w'=>e= .returned g.NumB/\Below w.heap.size w w':=by
 obtain⟨fp,tp,sq,ak,syn,fin,rst,has,win,mss,sacks,bl,s⟩:=g;have HF:=hid (fun h=>show false=Sg.NumB ⟨fp,tp,sq,ak,syn,fin,rst,has,win,mss,sacks,bl,s⟩from(decide_eq_false h).symm);have HT:=hid (fun h=>show true=Sg.NumB ⟨fp,tp,sq,ak,syn,fin,rst,has,win,mss,sacks,bl,s⟩from(decide_eq_true h).symm);dsimp only at HF HT|-
 go_enter Tryz.func51,Tryz.ntmps51
 go_wp2_with fail;refine(kZ _ _).mono ?_;rintro e w9⟨rfl,rfl⟩;by_cases h1:1<=fp/\fp<=65535;rotate_left
 ·have hd:decide (1<=fp/\fp<=65535)=false:=decide_eq_false h1;rw[hd];clear hd;go_wp2;go_ret;exact⟨bN (HF.o (fun h=>h1 h.1)),ap _ _⟩
 have hd:decide (1<=fp/\fp<=65535)=true:=decide_eq_true h1;rw[hd];clear hd;have H1:=hid h1;clear h1;go_wp2_with fail;refine(kZ _ _).mono ?_;rintro e w9⟨rfl,rfl⟩;by_cases h1:1<=tp/\tp<=65535;rotate_left
 ·have hd:decide (1<=tp/\tp<=65535)=false:=decide_eq_false h1;rw[hd];clear hd;go_wp2;go_ret;exact⟨bN (HF.o (fun h=>h1 h.2.1)),ap _ _⟩
 have hd:decide (1<=tp/\tp<=65535)=true:=decide_eq_true h1;rw[hd];clear hd;have H2:=hid h1;clear h1;go_wp2_with fail;refine(dE _ _).mono ?_;rintro e w9⟨rfl,rfl⟩;by_cases h1:0<=sq/\sq<=4294967295;rotate_left
 ·have hd:decide (0<=sq/\sq<=4294967295)=false:=decide_eq_false h1;rw[hd];clear hd;go_wp2;go_ret;exact⟨bN (HF.o (fun h=>h1 h.2.2.1)),ap _ _⟩
 have hd:decide (0<=sq/\sq<=4294967295)=true:=decide_eq_true h1;rw[hd];clear hd;have H3:=hid h1;clear h1;go_wp2_with fail;refine(dE _ _).mono ?_;rintro e w9⟨rfl,rfl⟩;by_cases h1:0<=ak/\ak<=4294967295;rotate_left
 ·have hd:decide (0<=ak/\ak<=4294967295)=false:=decide_eq_false h1;rw[hd];clear hd;go_wp2;go_ret;exact⟨bN (HF.o (fun h=>h1 h.2.2.2.1)),ap _ _⟩
 have hd:decide (0<=ak/\ak<=4294967295)=true:=decide_eq_true h1;rw[hd];clear hd;have H4:=hid h1;clear h1;by_cases hz:has=true\/ak=0;rotate_left
 ·have hh:has=false:=by cases has with
   | true=>exact absurd (.inl rfl) hz
   | false=>rfl
  have hk:(ak==0)=false:=beq_eq_false_iff_ne.2 (fun h=>hz (.inr h));have HZ:=hid hz;clear hz;subst hh;go_wp2;go_ret;exact⟨bN (HF.o (fun h=>HZ.o h.2.2.2.2.1)),ap _ _⟩
 have HZ:=hid hz
 have HE:=hid (show has=true\/(has=false/\(ak==0)=true) by
  cases has with
  | true=>exact .inl rfl
  | false =>
   rcases hz with h | h
   ·cases h
   exact .inr ⟨rfl,beq_iff_eq.2 h⟩)
 clear hz;by_cases hw1:0<=win;rotate_left
 ·rcases HE.o with rfl | ⟨rfl,hz⟩
  all_goals
   clear HE;go_wp2;go_ret;exact⟨bN (HF.o (fun h=>absurd h.2.2.2.2.2.1 (by omega))),ap _ _⟩
 by_cases hw2:win<=65535
 ·rcases HE.o with rfl | ⟨rfl,hz⟩
  all_goals
   clear HE;go_wp2;go_ret;exact⟨bN (HT.o ⟨H1.o,H2.o,H3.o,H4.o,HZ.o,hw1,hw2⟩),ap _ _⟩
 rcases HE.o with rfl | ⟨rfl,hz⟩
 all_goals
  clear HE;go_wp2;go_ret;exact⟨bN ((decide_eq_false (by omega)).trans (HF.o (fun h=>absurd h.2.2.2.2.2.2 (by omega)))),ap _ _⟩
set_option maxHeartbeats 2000000 in
theorem ka (g:Sg) (a:Option Addr) (cap:Nat) (S:ByteArray) (w:World) :
  Calls Tryz.prog 52 #[.agg #[g.fp,g.tp,g.sq,g.ak,g.syn,g.fin,g.rst,g.has,g.win,g.mss,g.sacks,.slice a g.bl.length cap,.string S]] w fun e w'=>e= .returned g.FlB/\Below w.heap.size w w':=by
 obtain⟨fp,tp,sq,ak,syn,fin,rst,has,win,mss,sacks,bl,s⟩:=g;have HR:=hid (show Sg.FlB ⟨fp,tp,sq,ak,syn,fin,rst,has,win,mss,sacks,bl,s⟩=decide (¬(syn=true/\fin=true)/\¬(syn=true/\rst=true)/\¬(fin=true/\rst=true)/\(syn=false->mss=0/\sacks=false)/\(syn=true->mss=0\/(28<=mss/\mss<=1024)))from rfl);by_cases hm:mss=0
 ·subst hm
  cases syn <;> cases fin <;> cases rst <;> cases sacks
  all_goals
   go_enter Tryz.func52,Tryz.ntmps52
   go_wp2;go_ret;exact⟨bN (by rw[HR.o];simp),ap _ _⟩
 have hz:(mss==0)=false:=beq_eq_false_iff_ne.2 hm;have HM:=hid hm;clear hm
 cases syn <;> cases fin <;> cases rst
 case true.false.false =>
  by_cases h28:28<=mss
  ·by_cases h10:mss<=1024
   all_goals
    go_enter Tryz.func52,Tryz.ntmps52
    go_wp2;go_ret;exact⟨bN (by rw[HR.o];first | (simp[HM.o];done) | (simp[HM.o];omega)),ap _ _⟩
  go_enter Tryz.func52,Tryz.ntmps52
  go_wp2;go_ret;exact⟨bN (by rw[HR.o];first | (simp[HM.o];done) | (simp[HM.o];omega)),ap _ _⟩
 all_goals
  go_enter Tryz.func52,Tryz.ntmps52
  go_wp2;go_ret;exact⟨bN (by rw[HR.o];simp[HM.o]),ap _ _⟩
set_option maxHeartbeats 2000000 in
theorem jh (g:Sg) (n₀:Nat) (a:Option Addr) (cap:Nat) (S:ByteArray) (w:World) (hc:SpAt w n₀ a g.bl) (hn:n₀<=w.heap.size) :
  Calls Tryz.prog 53 #[.agg #[g.fp,g.tp,g.sq,g.ak,g.syn,g.fin,g.rst,g.has,g.win,g.mss,g.sacks,.slice a g.bl.length cap,.string S]] w fun e w'=>e= .returned g.BlB/\Below w.heap.size w w':=by
 obtain⟨fp,tp,sq,ak,syn,fin,rst,has,win,mss,sacks,bl,s⟩:=g;have HF:=hid (fun h=>show false=Sg.BlB ⟨fp,tp,sq,ak,syn,fin,rst,has,win,mss,sacks,bl,s⟩from(decide_eq_false h).symm);have HT:=hid (fun h=>show true=Sg.BlB ⟨fp,tp,sq,ak,syn,fin,rst,has,win,mss,sacks,bl,s⟩from(decide_eq_true h).symm);dsimp only at hc HF HT|-;have HC:=hid hc;clear hc;by_cases h1:(3:Int)<(bl.length:Int)
 ·go_enter Tryz.func53,Tryz.ntmps53
  go_wp2;go_ret;exact⟨bN (HF.o (fun h=>absurd h.1 (by omega))),ap _ _⟩
 have an:(bl.length:Int)<=3:=by omega
 clear h1;have h1:¬(3:Int)<(bl.length:Int):=by omega
 by_cases hz:has=false/\0<bl.length
 ·have HX:=hid hz.2;have hpi:(0:Int)<(bl.length:Int):=by have:=hz.2;omega
  have hz1:=hz.1;clear hz;subst hz1
  go_enter Tryz.func53,Tryz.ntmps53
  go_wp2;go_ret;exact⟨bN (HF.o (fun h=>absurd (h.2.1 HX.o) (by simp))),ap _ _⟩
 have HE:=hid (show has=true\/bl.length=0 by
  cases has with
  | true=>exact .inl rfl
  | false =>
   rcases Nat.eq_zero_or_pos bl.length with e | e
   ·exact .inr e
   exact absurd ⟨rfl,e⟩ hz)
 clear hz;by_cases hp:0<bl.length
 ·have hhas:has=true:=by rcases HE.o with e | e;exact e;omega
  subst hhas;have hpi:(0:Int)<(bl.length:Int):=by omega
  go_enter Tryz.func53,Tryz.ntmps53
  go_wp2_with fail;generalize hW0:w.alloc (.cells #[fp,tp,sq,ak,syn,fin,rst,true,win,mss,sacks,.slice a bl.length cap,.string S] 43)=W0;have aa:=hid (show Below w.heap.size w W0 by rw[<-hW0];exact ap _ _);clear hW0
  go_loopw [23] (fun p wr=>∃k:Nat,k<=bl.length/\p= .int .i64 k/\Below w.heap.size w wr/\∀x∈bl.take k,(0<=x.1/\x.1<=4294967295)/\(0<=x.2/\x.2<=4294967295)/\x.1≠x.2) (fun p _=>bl.length-(intOf p).toNat)
  case atStart=>exact⟨0,Nat.zero_le _,rfl,aa.o,fun x hx=>by simp at hx⟩
  case round =>
   obtain⟨k,hk,rfl,aF,hpre⟩:=hrel;clear aa;have a0:=hid aF;have am:=hid hpre;have hws:=aF.size;clear aF hpre;by_cases hlt:k<bl.length
   ·obtain⟨b,off,rfl,hbl,hcs⟩:=HC.cells (by omega);obtain⟨c0,c1⟩:=hcs k hlt;have d0:=(a0.cell (p:=⟨b,_,none⟩) (by show b<w.heap.size;omega)).trans c0;have d1:=(a0.cell (p:=⟨b,_,none⟩) (by show b<w.heap.size;omega)).trans c1;clear hcs c0 c1;have HM:=hid (List.getElem_mem hlt);have bI:=hid (List.take_succ_eq_append_getElem hlt);generalize bl[k]=x at d0 d1 HM bI;obtain⟨u,v⟩:=x;dsimp only at d0 d1;have b8:(k:Int)<(bl.length:Int):=by omega
    have hk3:(k:Int)<=3:=by omega
    have ag:=hid (a0.trans ((Below.refl wr.heap.size wr).alloc (Nat.le_refl _) (.cells #[u,v] 92) |>.mono hws));go_wp2_with fail;refine(dE _ _).mono ?_;rintro e w9⟨rfl,rfl⟩;by_cases hu:0<=u/\u<=4294967295;rotate_left
    ·rw[decide_eq_false hu];go_wp2;go_ret;exact⟨bN (HF.o (fun h=>hu (h.2.2 _ HM.o).1)),ag.o⟩
    rw[decide_eq_true hu];have HU:=hid hu;clear hu;go_wp2_with fail;refine(dE _ _).mono ?_;rintro e w9⟨rfl,rfl⟩;by_cases hu:0<=v/\v<=4294967295;rotate_left
    ·rw[decide_eq_false hu];go_wp2;go_ret;exact⟨bN (HF.o (fun h=>hu (h.2.2 _ HM.o).2.1)),ag.o⟩
    rw[decide_eq_true hu];have HV:=hid hu;clear hu;by_cases ad:u=v
    ·have hq:(u==v)=true:=beq_iff_eq.2 ad;have HQ:=hid ad;clear ad;go_wp2;go_ret;exact⟨bN (HF.o (fun h=>(h.2.2 _ HM.o).2.2 HQ.o)),ag.o⟩
    have hq:(u==v)=false:=beq_eq_false_iff_ne.2 ad;have HQ:=hid ad;clear ad;go_wp2_with fail;refine⟨⟨k+1,hlt,by simp,ag.o,fun x hx=> ?_⟩,by simp[intOf];omega⟩;rw[bI.o]at hx
    rcases List.mem_append.1 hx with hx | hx
    ·exact am.o x hx
    rw[List.mem_singleton.1 hx];exact⟨HU.o,HV.o,HQ.o⟩
   have HN:=hid (show bl.take k=bl from List.take_of_length_le (by omega));go_wp2;go_ret;exact⟨bN (HT.o ⟨by omega,fun _=>by simp,by rw[<-HN.o];exact am.o⟩),a0.o⟩
 have b9:bl=[]:=List.eq_nil_of_length_eq_zero (by omega);subst b9;clear HE;have hpi:¬(0:Int)<(([]:List Sp).length:Int):=by simp
 go_enter Tryz.func53,Tryz.ntmps53
 go_wp2_with fail;generalize hW0:w.alloc (.cells #[fp,tp,sq,ak,syn,fin,rst,has,win,mss,sacks,.slice a 0 cap,.string S] 43)=W0;have aa:=hid (show Below w.heap.size w W0 by rw[<-hW0];exact ap _ _);clear hW0
 go_loopw [23] (fun p wr=>p=((0:Int):Y)/\Below w.heap.size w wr) (fun _ _=>0)
 case atStart=>exact⟨rfl,aa.o⟩
 case round =>
  obtain⟨rfl,aF⟩:=hrel;clear aa;have a0:=hid aF;clear aF;go_wp2;go_ret;exact⟨bN (HT.o ⟨by simp,fun h=>by simp at h,fun x hx=>by simp at hx⟩),a0.o⟩
theorem pM (g:Sg)(a:Option Addr)(cap:Nat)(S:ByteArray)(w:World)(hS:S.size=g.s.length)(hl:g.s.length<=1099511627776) :
  Calls Tryz.prog 55 #[.agg #[g.fp,g.tp,g.sq,g.ak,g.syn,g.fin,g.rst,g.has,g.win,g.mss,g.sacks,.slice a g.bl.length cap,.string S]] w fun e w'=>e= .returned (g.s.length+(if g.syn=true\/g.fin=true then 1 else 0):Int)/\Below w.heap.size w w':=by
 obtain⟨fp,tp,sq,ak,syn,fin,rst,has,win,mss,sacks,bl,s⟩:=g;dsimp only at hS hl|-;have hl2:(S.size:Int)<=1099511627776:=by omega
 have HS:=hid hS;clear hS hl
 cases syn <;> cases fin
 all_goals
  go_enter Tryz.func55,Tryz.ntmps55
  go_wp2;go_ret;exact⟨by rw[HS.o];simp,ap _ _⟩
end
section
set_option maxRecDepth 100000
open Go.RowKit
set_option maxHeartbeats 2000000 in
theorem iz (g:Sg) (n₀:Nat) (a:Option Addr) (cap:Nat) (w:World) (hc:SpAt w n₀ a g.bl) (hn:n₀<=w.heap.size) :
  Calls Tryz.prog 26 #[.agg #[g.fp,g.tp,g.sq,g.ak,g.syn,g.fin,g.rst,g.has,g.win,g.mss,g.sacks,.slice a g.bl.length cap,.string ⟨g.s.toArray⟩]] w fun e w'=>e= .returned g.okB/\Below w.heap.size w w':=by
 by_cases hok:g.Ok
 ·rw[(Sg.okB_iff g).2 hok];exact mZ g n₀ a cap _ w hok rfl hc hn
 have al:=hid (show g.okB=false from by
  cases h:g.okB with
  | false=>rfl
  | true=>exact absurd ((Sg.okB_iff g).1 h) hok)
 rw[al.o];have HN:=hid (fun W=>jK g a cap ⟨g.s.toArray⟩ W);have HF:=hid (fun W=>ka g a cap ⟨g.s.toArray⟩ W);have HK:=hid (fun W (hb:Below w.heap.size w W)=>jh g n₀ a cap ⟨g.s.toArray⟩ W (hc.below (hb.mono hn)) (Nat.le_trans hn hb.size));have HA:=hid (kX.new w g a cap ⟨g.s.toArray⟩);have HB:=hid (ap w (.cells #[g.fp,g.tp,g.sq,g.ak,g.syn,g.fin,g.rst,g.has,g.win,g.mss,g.sacks,.slice a g.bl.length cap,.string ⟨g.s.toArray⟩] 43));clear hok hc
 go_enter Tryz.func26,Tryz.ntmps26
 go_wp2_with fail;refine(HN.o _).mono ?_;rintro e w1⟨rfl,hb1⟩;replace HA:=hid (HA.below hb1 (by simp));replace HB:=hid (HB.trans (hb1.mono HB.size));clear hb1
 cases hnb:g.NumB with
 | false =>
  clear al;go_wp2;go_ret;exact⟨rfl,HB.o⟩
 | true =>
  obtain⟨z0,z1,z2,z3,z4,z5,z6,z7,z8,z9,ab,a7,a9⟩:=HA.cells;go_wp2_with fail;refine(HF.o _).mono ?_;rintro e w2⟨rfl,hb2⟩;clear z0 z1 z2 z3 z4 z5 z6 z7 z8 z9 ab a7 a9;replace HA:=hid (HA.below hb2 HA.lt);replace HB:=hid (HB.trans (hb2.mono HB.size));clear hb2
  cases hfb:g.FlB with
  | false =>
   clear al;go_wp2;go_ret;exact⟨rfl,HB.o⟩
  | true =>
   obtain⟨z0,z1,z2,z3,z4,z5,z6,z7,z8,z9,ab,a7,a9⟩:=HA.cells;go_wp2_with fail;refine(HK.o _ HB.o).mono ?_;rintro e w3⟨rfl,hb3⟩;clear z0 z1 z2 z3 z4 z5 z6 z7 z8 z9 ab a7 a9;replace HA:=hid (HA.below hb3 HA.lt);replace HB:=hid (HB.trans (hb3.mono HB.size));clear hb3
   cases hbb:g.BlB with
   | false =>
    clear al;go_wp2;go_ret;exact⟨rfl,HB.o⟩
   | true =>
    have an:(g.bl.length:Int)<=3:=by
     have:=hbb;unfold Sg.BlB at this;have:=(of_decide_eq_true this).1;omega
    have ac:g.LenB=false:=by
     have:=al.o;unfold Sg.okB at this;rw[hnb,hfb,hbb]at this
     simpa using this
    clear al hnb hfb hbb;obtain⟨-,-,-,-,z4,-,z6,-,-,-,-,a7,a9⟩:=HA.cells;by_cases hsr:g.syn=true\/g.rst=true
    ·have av:g.s.isEmpty=false:=by
      unfold Sg.LenB at ac;rw[if_pos hsr]at ac;have hne:=of_decide_eq_false ac
      cases hs:g.s with
      | nil=>exact absurd hs hne
      | cons x l=>rfl
     clear ac
     rcases(show g.syn=true\/(g.syn=false/\g.rst=true) by
      cases h:g.syn with
      | true=>exact .inl rfl
      | false=>rw[h]at hsr;exact .inr ⟨rfl,by rcases hsr with h | h;cases h;exact h⟩)with h | ⟨h,h'⟩
     ·rw[h]at z4;clear hsr;go_wp2;go_ret;exact⟨rfl,HB.o⟩
     rw[h]at z4;rw[h']at z6;clear hsr;go_wp2;go_ret;exact⟨rfl,HB.o⟩
    have h4:g.syn=false:=by cases h:g.syn with
     | true=>exact absurd (.inl h) hsr
     | false=>rfl
    have h6:g.rst=false:=by cases h:g.rst with
     | true=>exact absurd (.inr h) hsr
     | false=>rfl
    have hgt:¬(g.s.length:Int)<=1024-8*(g.bl.length:Int):=by
     unfold Sg.LenB at ac;rw[if_neg hsr]at ac;exact of_decide_eq_false ac
    have hz:(⟨g.s.toArray⟩:ByteArray).size=g.s.length:=by simp[ByteArray.size]
    rw[h4]at z4;rw[h6]at z6;clear hsr ac;go_wp2;go_ret;exact⟨congrArg (fun b=>Ending.returned (.bool b)) (decide_eq_false (by omega)),HB.o⟩
end
end Go.Proofs.YtclkcmidhhfdmaaGreatDoor
