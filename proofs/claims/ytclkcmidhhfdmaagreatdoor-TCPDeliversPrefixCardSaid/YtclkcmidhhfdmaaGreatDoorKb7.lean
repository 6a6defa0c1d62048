import Derived.Test.YtclkcmidhhfdmaaGreatDoorKb0
import Derived.Test.YtclkcmidhhfdmaaGreatDoorKb6
import Derived.Lib.BufferWrite
import Derived.Deep.RegionLaw
import Derived.BigRegion
import Derived.Laws.CopyOwn
import Derived.BigQuiet
namespace Go.Proofs.YtclkcmidhhfdmaaGreatDoor
open Lib (hid)
section
set_option maxRecDepth 100000
open Go.RowKit Go.Shelf
theorem run_copy_str {P:Program} (w:World) (dT sT ty elem:TypeId) (g o dLen dCap:Nat) (s:ByteArray) (cur:Array Value) (t:TypeId)
  (hu:P.underlying dT=some (.slice elem)) (hs:(P.info? elem).map (·.size)=some 1) (hg:w.heap[g]? =some (.cells cur t (0,0))) (hfit:o+min s.size dLen<=cur.size) :
  (Builtin.copy_ #[dT,sT] ty #[.slice (some ⟨g,o,none⟩) dLen dCap,.string s]).run P w =
   .ok (goInt (min s.size dLen:Nat)) (w.setRow g (cur.toList.take o++Lib.byteCells (s.data.toList.take (min s.size dLen))++cur.toList.drop (o+min s.size dLen)).toArray):=by
 have hlen:(Lib.byteCells (s.data.toList.take (min s.size dLen))).length=min s.size dLen:=by rw [Lib.byteCells_length,List.length_take,←Lib.size_eq];omega
 have hst:=run_storeCells_at P g o t (Lib.byteCells (s.data.toList.take (min s.size dLen))) 0 cur w hg (by rw [hlen];simpa using hfit) (Lib.byteCells_one _)
 have htk:List.take (min s.size dLen) (List.map (fun b:UInt8=>Value.int IntKind.u8 (b.toNat:Int)) s.data.toList)=Lib.byteCells (s.data.toList.take (min s.size dLen)):=by
  rw [←List.map_take];rfl
 have hmin:Nat.min s.size dLen=min s.size dLen:=rfl;rw [hlen] at hst;simp only [Nat.add_zero] at hst
 cases hq:P.info? elem with
 | none=>simp [hq] at hs
 | some i =>
  simp [Builtin.copy_,run_underlying hu,Builtin.lenOf,Builtin.firstCells,sizeOf,typeInfo,hq,hmin]
  rw [htk,hst]
  simp [Result.andThen]
theorem step_copy_str {P:Program} {ops:Array Oper} {o:Oper} {a:Act} {w:World} {K:Act->World->Prop} {Q:Exit->Act->World->Prop} {E:Prop} (hgd:o.guard=none) (d s:Operand) (dT sT:TypeId)
  (ho:o.op= .call { callee:=.builtin .copy,args:= #[d,s],argTypes:= #[dT,sT] }) (elem:TypeId) (hu:P.underlying dT=some (.slice elem)) (hsz:(P.info? elem).map (·.size)=some 1)
  (g off dLen dCap:Nat) (hd:a.eval d= .slice (some ⟨g,off,none⟩) dLen dCap) (str:ByteArray) (hs:a.eval s= .string str)
  (cur:Array Value) (t:TypeId) (hg:w.heap[g]? =some (.cells cur t (0,0))) (hfit:off+min str.size dLen<=cur.size)
  (h:∀ w',Hid (w'.heap[g]? =some (.cells (cur.toList.take off++Lib.byteCells (str.data.toList.take (min str.size dLen))++cur.toList.drop (off+min str.size dLen)).toArray t (0,0)))->Hid (Chg g w w')->K (a.put o.dst (goInt (min str.size dLen:Nat))) w') :
  if Region.wanted o (yielded ops a.tmps)=true then Oper.wp P o a w K Q else E:=by
 have hw:Region.wanted o (yielded ops a.tmps)=true:=by simp [Region.wanted,hgd]
 rw [if_pos hw];have hrun:=run_copy_str (P:=P) w dT sT o.type elem g off dLen dCap str cur t hu hsz hg hfit;unfold Oper.wp;simp only [execOp,ho,resolve,invoke,builtin,Sem.run_bind,Sem.run_pure,Result.andThen_ok,List.map_toArray,List.map_cons,List.map_nil,hs,hd,hrun];exact h _ (setRow_heap w g cur _ t _ hg) ⟨rfl,rfl,rfl,by simp,fun k _ hk=>setRow_other w g k _ hk⟩
theorem byteCells_splB (rg:List UInt8) (o:Nat) (cs:List UInt8):Lib.byteCells (splB rg o cs)=(Lib.byteCells rg).take o++Lib.byteCells cs++(Lib.byteCells rg).drop (o+cs.length):=by
 unfold splB Lib.byteCells;rw [List.map_append,List.map_append,List.map_take,List.map_drop,List.append_assoc]
theorem chg_cell {R B i:Nat} {v:Value} {w w':World} (h:Chg R w w') (hc:w.cell? ⟨B,i,none⟩=some v) (hne:B≠R):w'.cell? ⟨B,i,none⟩=some v :=
 (World.cell?_of_block (a:=⟨B,i,none⟩) (h.block B (block_lt_of_cell hc) hne)).trans hc
theorem Chg.drew0 {B:Nat} {w w':World} (h:Chg B w.drew w'):Chg B w w':=⟨h.os,h.tape,h.output,h.size,h.block⟩
theorem ext_drop (s:ByteArray) (m:Nat):(s.extract m s.size).data.toList=s.data.toList.drop m:=by
 rw [ByteArray.data_extract,Array.toList_extract,List.extract_eq_take_drop];exact List.take_of_length_le (by rw [List.length_drop,Array.length_toList];exact Nat.le_refl _)
def RingAt (R:Nat) (rg:List UInt8) (w:World):Prop:=w.heap[R]? =some (.cells (Lib.byteCells rg).toArray 5 (0,0))
set_option maxHeartbeats 1000000 in
theorem fill_any (B R:Nat) (rg:List UInt8) (k:Nat) (s:ByteArray) (w:World) (hB:w.cell? ⟨B,0,none⟩=some (.slice (some ⟨R,0,none⟩) rg.length rg.length)) (hR:RingAt R rg w) (hne:B≠R) (h1:1<=rg.length) (hn:rg.length<=8192)
  (hs:s.size<=rg.length) (hk:k<=4611686018427387904) :
  Calls Tryz.prog 215 #[.pointer (some ⟨B,0,none⟩),.int .i64 k,.string s] w fun e w'=>e= .returned (.tuple #[])/\RingAt R (fillB rg k s.data.toList) w'/\Chg R w w':=by
 obtain ⟨n,hln⟩:∃ n,n=rg.length:=⟨_,rfl⟩;rw [←hln] at hB h1 hn hs;have hlt:k%n<n:=Nat.mod_lt _ (by omega);have hmod:(k:Int).tmod (n:Int)=((k%n:Nat):Int):=by rw [Int.tmod_eq_emod_of_nonneg (by omega)];rfl
 have HLN:=hid hln;clear hln;generalize hko:k%n=o at *;have HKO:=hid hko;clear hko;have hno:n≠o:=by omega
 have HR:=hid hR;clear hR;have hcn:(Lib.byteCells rg).toArray.size=n:=by rw [List.size_toArray,Lib.byteCells_length];exact HLN.out.symm
 have HCN:=hid hcn;clear hcn;have hz:n≠0:=by omega
 have hle:o<=n:=by omega
 go_enter Tryz.func215,Tryz.ntmps215
 go_wp2_with fail
 go_region_law (refine step_copy_str rfl _ _ _ _ rfl 5 Tryz.underlying112 (by kernel_rfl) R o (n-o) (n-o) (by simp [Act.eval,Act.put]) s (by simp [Act.eval,Act.put]) _ _ HR.out (by rw [HCN.out];omega) ?_;intro w1 hr1 hc1;have hB1:=chg_cell hc1.out (show w.drew.cell? _=_ from hB) hne)
 all_goals
  obtain ⟨m,hm⟩:∃ m,m=min s.size (n-o):=⟨_,rfl⟩
  have hr2:RingAt R (splB rg o (s.data.toList.take m)) w1:=by
   have h:=hr1.out;unfold RingAt;rw [byteCells_splB,List.length_take,←Lib.size_eq,show min m s.size=m by omega];rw [←hm] at h;exact h
  rw [←hm];clear hr1 HR HCN;have HM:=hid hm;have HR2:=hid hr2;have hms:m<=s.size:=by omega
  have hrl:(Lib.byteCells (splB rg o (s.data.toList.take m))).toArray.size=n:=by rw [List.size_toArray,Lib.byteCells_length,length_splB _ _ _ (by rw [List.length_take,←HLN.out];omega)];exact HLN.out.symm
  have HRL:=hid hrl;clear hrl;clear hm hr2;go_wp2_with fail
  go_region_law (refine step_copy_str rfl _ _ _ _ rfl 5 Tryz.underlying112 (by kernel_rfl) R 0 n n (by simp [Act.eval]) (s.extract m s.size) (by simp [Act.eval]) _ _ HR2.out (by rw [HRL.out];omega) ?_;intro w2 hr3 hc3)
  refine bodyPost_end (results_none rfl _ _ _) rfl ⟨rfl,?_,hc1.out.drew0.trans hc3.out.drew0⟩;have h:=hr3.out;rw [ext_drop,show min (s.extract m s.size).size n=(s.data.toList.drop m).length by rw [ByteArray.size_extract,List.length_drop,←Lib.size_eq];omega,List.take_length] at h;unfold RingAt fillB;rw [←HLN.out,HKO.out,byteCells_splB,←Lib.size_eq,←HM.out];exact h
end
section
set_option maxRecDepth 100000
open Go.RowKit Go.Shelf
attribute [local go_sem] Oper.semAt_some
theorem addF_drop {s:Sp} {L:List Sp} {k:Nat} (h:k<L.length):addF s (L.drop k)=if L[k].2<s.1 then L[k]::addF s (L.drop (k+1)) else if s.2<L[k].1 then s::L[k]::L.drop (k+1) else addF (min s.1 L[k].1,max s.2 L[k].2) (L.drop (k+1)):=by
 rw [List.drop_eq_getElem_cons h];rfl
theorem withL_canon {e:Int} {L:List Sp} (h:canonF e L=true):withL L=L:=by
 unfold withL;rw [List.filter_eq_self];intro x hx;obtain ⟨k,hk,rfl⟩:=List.mem_iff_getElem.1 hx
 simpa using (canonF_nth h hk).2.1
theorem canonF_drop2 {e:Int} {L:List Sp} (h:canonF e L=true) (k:Nat):∃ e',canonF e' (L.drop k)=true:=by
 induction L generalizing e k with
 | nil=>exact ⟨0,by simp;rfl⟩
 | cons x L ih =>
  cases k with
  | zero=>exact ⟨e,h⟩
  | succ k=>rw [canonF_cons] at h;exact ih h.2 k
def addC (N M Q:Nat) (w:World) (y:Sp) (outs:List Sp) (v:Value) (r:Nat) (W:World):Prop :=
 At N 0 (.int .i64 y.1) W/\At N 1 (.int .i64 y.2) W/\At Q 0 v W/\At (Q+1) 0 (.int .i64 (r:Int)) W/\OwnSp W M v outs/\Below N w W/\(∀ b,v.ownBlock=some b->b<Q∨Q+2<=b)/\y.1<y.2
def addI (N M Q:Nat) (w:World) (s:Sp) (L:List Sp) (k:Nat) (W:World):Prop :=
 ∃ y outs v,addC N M Q w y outs v L.length W/\outs.length<=k/\addF s L=outs++addF y (L.drop k)
def addX (N M Q:Nat) (w:World) (s:Sp) (L:List Sp) (c:Code) (k:Nat) (W:World):Prop :=
 ∃ y outs v,addC N M Q w y outs v k W/\outs.length<=k/\addF s L=outs++y::L.drop k/\c= .exit 0
theorem addC_own {N M Q:Nat} {w:World} {y:Sp} {outs:List Sp} {v:Value} {r:Nat} {B:Nat} (hN:N<=w.heap.size) (hB:N<=B) {A A':World} {row:Option Nat} (h:addC N M Q w y outs v r A) (hg:A.grownBy A' row)
  (hr:∀ r,row=some r->B<=r/\∃ o:Obj,A.heap[r]? =some o/\o.isCells=false):addC N M Q w y outs v r A':=by
 have hr2:=fun r e=>(hr r e).2;obtain ⟨h1,h2,h3,h4,h5,h6,h7⟩:=h;exact ⟨h1.own hg hr2,h2.own hg hr2,h3.own hg hr2,h4.own hg hr2,h5.own hg hr2,below_own h6 hg hr hN hB,h7⟩
theorem addI_own {N M Q:Nat} {s:Sp} {w:World} {L:List Sp} {B:Nat} (hN:N<=w.heap.size) (hB:N<=B):OwnFrom B (addI N M Q w s L):=fun _ _ _ _ ⟨y,outs,v,h,r⟩ hg hr=>⟨y,outs,v,addC_own hN hB h hg hr,r⟩
theorem addX_own {N M Q:Nat} {s:Sp} {w:World} {L:List Sp} {B:Nat} (hN:N<=w.heap.size) (hB:N<=B) (c:Code):OwnFrom B (addX N M Q w s L c):=fun _ _ _ _ ⟨y,outs,v,h,r⟩ hg hr=>⟨y,outs,v,addC_own hN hB h hg hr,r⟩
theorem addC_alloc {N M Q:Nat} {w:World} {y:Sp} {outs:List Sp} {v:Value} {r:Nat} {W:World} (h:addC N M Q w y outs v r W) (hN:N<=W.heap.size) (o:Obj):addC N M Q w y outs v r (W.alloc o):=by
 obtain ⟨h1,h2,h3,h4,h5,h6,h7⟩:=h;exact ⟨h1.alloc o,h2.alloc o,h3.alloc o,h4.alloc o,h5.alloc o,h6.alloc hN o,h7⟩
theorem addC_app {N M Q:Nat} (hNM:N<M) (hMQ:M<Q) {w:World} {y:Sp} {outs outs':List Sp} {v v':Value} {r:Nat} {W W':World} (h:addC N M Q w y outs v r W) (hg:W.grownBy W' v.ownBlock) (ho:OwnSp W' M v' outs')
  (hb:v'.ownBlock=v.ownBlock∨∃ k,v'.ownBlock=some k/\W.heap.size<=k) (hN:N<=w.heap.size) :
  addC N M Q w y outs' v' r (W'.setCell ⟨Q,0,none⟩ v'):=by
 obtain ⟨h1,h2,h3,h4,h5,h6,h7,h8⟩:=h;have hne:∀ k,k<M∨k=Q∨k=Q+1->v.ownBlock≠some k:=fun k hk e=>by have:=(h5.lt k e).1;have:=h7 k e;omega
 have h7':∀ b,v'.ownBlock=some b->b<Q∨Q+2<=b:=by
  intro b e
  rcases hb with hb | ⟨k,hb,hk⟩
  ·rw [hb] at e;exact h7 b e
  rw [hb] at e;cases e;have:=h4.lt;omega
 have hne':v'.ownBlock≠some Q:=fun e=>by have:=h7' Q e;omega
 refine ⟨(h1.grown hg (hne _ (by omega))).ob _ (by omega),(h2.grown hg (hne _ (by omega))).ob _ (by omega),(h3.grown hg (hne _ (by omega))).set _,(h4.grown hg (hne _ (by omega))).ob _ (by omega),ho.setCell _ _ _ hne',?_,h7',h8⟩;refine (h6.trans (grown_below hg ?_ (fun k e=> ?_))).setCell (p:=⟨Q,0,none⟩) (by show N<=Q;omega) _
 ·have:=h6.size;omega
 have:=(h5.lt k e).1;omega
theorem addC_rest {N M Q:Nat} (hNM:N<M) (hMQ:M<Q) {w:World} {y:Sp} {outs:List Sp} {v:Value} {r:Nat} {W:World} (h:addC N M Q w y outs v r W) (u:Nat):addC N M Q w y outs v u (W.setCell ⟨Q+1,0,none⟩ (.int .i64 (u:Int))):=by
 obtain ⟨h1,h2,h3,h4,h5,h6,h7,h8⟩:=h;have hne:v.ownBlock≠some (Q+1):=fun e=>by have:=h7 _ e;omega
 exact ⟨h1.ob _ (by omega),h2.ob _ (by omega),h3.ob _ (by omega),h4.set _,h5.setCell _ _ _ hne,h6.setCell (p:=⟨Q+1,0,none⟩) (by show N<=Q+1;omega) _,h7,h8⟩
theorem addC_s {N M Q:Nat} (hNM:N<M) (hMQ:M<Q) {w:World} {y:Sp} {outs:List Sp} {v:Value} {r:Nat} {W:World} (h:addC N M Q w y outs v r W) (z:Sp) (hz:z.1<z.2):addC N M Q w z outs v r ((W.setCell ⟨N,0,none⟩ (.int .i64 z.1)).setCell ⟨N,1,none⟩ (.int .i64 z.2)):=by
 obtain ⟨h1,h2,h3,h4,h5,h6,h7,h8⟩:=h;have hne:v.ownBlock≠some N:=fun e=>by have:=(h5.lt _ e).1;omega
 exact ⟨(h1.set _).other _ _ (by simp),(h2.other _ _ (by simp)).set _,(h3.ob _ (by omega)).ob _ (by omega),(h4.ob _ (by omega)).ob _ (by omega),(h5.setCell _ _ _ hne).setCell _ _ _ hne,(h6.setCell (p:=⟨N,0,none⟩) (Nat.le_refl _) _).setCell (p:=⟨N,1,none⟩) (Nat.le_refl _) _,h7,hz⟩
theorem addC_drew {N M Q:Nat} {w:World} {y:Sp} {outs:List Sp} {v:Value} {r:Nat} {W:World} (h:addC N M Q w y outs v r W):addC N M Q w y outs v r W.drew:=by
 obtain ⟨h1,h2,h3,h4,h5,h6,h7⟩:=h;exact ⟨h1,h2,h3,h4,h5,h6.drew,h7⟩
theorem SpAt.drop {w:World} {n₀:Nat} {a:Option Addr} {L:List Sp} (h:SpAt w n₀ a L) {cap:Nat} (hcap:L.length<=cap) (k:Nat):SpAt w n₀ (if cap=k then a else Option.map (fun x=>x.add (k*2)) a) (L.drop k):=by
 refine ⟨by rw [List.length_drop];have:=h.small;omega,fun hl=> ?_⟩;rw [List.length_drop] at hl;obtain ⟨b,off,rfl,hb,hc⟩:=h.cells (by omega);rw [if_neg (by omega),Option.map_some,Addr.add_lit];refine ⟨b,off+k*2,rfl,hb,fun i hi=> ?_⟩;rw [List.length_drop] at hi;obtain ⟨c0,c1⟩:=hc (k+i) (by omega);rw [List.getElem_drop,show off+k*2+i*2=off+(k+i)*2 by omega];exact ⟨c0,c1⟩
theorem with_len (w:World) (base n₀:Nat) (v:Value) (L:List Sp) (a:Option Addr) (cap:Nat) (ps:List Sp) (hv:OwnSp w base v L) (hL:L.length<=2199023255552) (hbase:base<=w.heap.size)
  (hc:SpAt w n₀ a ps) (hn:n₀<=w.heap.size) (hne:0<ps.length->∀ ad,a=some ad->v.ownBlock≠some ad.block) (n:Nat) (hnl:n=ps.length) :
  Calls Tryz.prog 228 #[v,.slice a n cap] w fun e w'=>∃ v',e= .returned v'/\OwnSp w' base v' (L++withL ps)/\w.grownBy w' v.ownBlock/\(v'.ownBlock=v.ownBlock∨∃ k,v'.ownBlock=some k/\w.heap.size<=k):=by
 subst hnl;exact with_any w base n₀ v L a cap ps hv hL hbase hc hn hne
theorem sp_one {W:World} (a b:Int) {n₀:Nat} (h:W.heap.size+1<=n₀):SpAt (W.alloc (.cells #[.int .i64 a,.int .i64 b] 92)) n₀ (some ⟨W.heap.size,0,none⟩) [(a,b)] :=
 ⟨by simp,fun _=>⟨W.heap.size,0,rfl,by omega,fun i hi=>by
  obtain rfl:i=0:=(by simpa using hi)
  simp⟩⟩
theorem below_of {n₀:Nat} {w a b:World} (hn:n₀<=w.heap.size) (h:Below w.heap.size w a) (k:Below w.heap.size w b) (hs:a.heap.size<=b.heap.size):Below n₀ a b :=
 ⟨k.os.trans h.os.symm,k.tape.trans h.tape.symm,k.output.trans h.output.symm,hs,fun i hi=>(k.block i (by omega)).trans (h.block i (by omega)).symm⟩
set_option maxHeartbeats 1000000 in
theorem add_any (w:World) (n₀:Nat) (a:Option Addr) (cap:Nat) (L:List Sp) (s:Sp) (hc:SpAt w n₀ a L) (hn:n₀<=w.heap.size) (hcap:L.length<=cap) :
  Calls Tryz.prog 216 #[.slice a L.length cap,.agg #[.int .i64 s.1,.int .i64 s.2]] w fun e w'=>∃ v,e= .returned v/\OwnSp w' w.heap.size v (addL L s)/\Below w.heap.size w w':=by
 obtain ⟨s1,s2⟩:=s;have hb:=(((Below.refl w.heap.size w).alloc (Nat.le_refl _) (.cells #[.int .i64 s1,.int .i64 s2] 92)).alloc (by simp) (.cells #[.slice a L.length cap] 224)).alloc (by simp;omega) (.cells #[.slice a L.length cap] 224);have HB:=hid hb;have HS:=hid (hc.below (hb.mono hn));have hsm:=hc.small;clear hb hc;refine (callsIn_wide (n:=4)).1 ?_;refine callsIn_of_wp_marks Tryz.func216 rfl trivial ?_ rfl;simp only [Tryz.ntmps216,List.size_toArray,List.length_cons,List.length_nil,Nat.reduceAdd,Nat.reduceSub,Array.replicate_succ,Array.replicate_zero,List.push_toArray,List.append_toArray,List.nil_append,List.cons_append];refine wpIn_wide.2 ?_;go_wp2_with fail
 go_step3
 go_wp2_with fail;refine (of_any _ _ _ _ _ rfl).mono ?_;rintro e w1 ⟨rfl,rfl⟩;go_wp2_with fail;refine (takes_any _ n₀ a cap L (s1,s2) HS.out (by have:=HB.out.size;omega)).mono ?_;rintro e w2 ⟨rfl,hb2⟩;have hA0:At w.heap.size 0 (.int .i64 s1) w2:=((((At.new (W:=w) (vs:= #[.int .i64 s1,.int .i64 s2]) 92 rfl rfl).alloc _).alloc _).below hb2 (by simp;omega));have hA1:At w.heap.size 1 (.int .i64 s2) w2:=((((At.new (W:=w) (vs:= #[.int .i64 s1,.int .i64 s2]) 92 rfl rfl).alloc _).alloc _).below hb2 (by simp;omega));have hz:At (w.heap.size+1+1) 0 (.slice a L.length cap) w2:=((At.new (W:=(w.alloc (.cells #[.int .i64 s1,.int .i64 s2] 92)).alloc (.cells #[.slice a L.length cap] 224)) (vs:= #[.slice a L.length cap]) 224 (by simp) rfl).below hb2 (by simp));have HS2:=hid (HS.out.below (hb2.mono (by have:=HB.out.size;omega)));have HB2:=hid (HB.out.trans (hb2.mono HB.out.size));have hsz:=hb2.size
 simp at hsz
 clear hb2 HB HS
 cases htk:takesB L (s1,s2) with
 | false =>
  go_wp2_with fail;rw [Exit.noGoto_ret];refine ret_plain rfl ⟨_,rfl,?_,HB2.out⟩;unfold addL;rw [htk];exact OwnSp.nil _ _
 | true =>
  obtain ⟨i0,hi,hz0,hz1,hz2⟩:=info_parts spanInfo;have hLb:¬ 9223372036854775807<L.length+1:=by omega
  go_wp2_with (first | (at_make;refine wpList_make_own _ rfl _ _ _ rfl w2.heap.size 92 i0 _ 2 Tryz.underlying41 hi hz0 hz1 _ _ _ (L.length+1) rfl rfl (by omega) (by rw [hz2];omega) (by unfold maxLen;omega) (Nat.le_refl _) ?_))
  intro w3 hown3 hgr3;have hlt3:=World.ownsRow.lt hown3 w2.heap.size rfl;have hown3':OwnSp w3 w2.heap.size (.slice (some ⟨w2.heap.size,0,none⟩) 0 (L.length+1)) []:=hown3;have hs3:=hgr3.size;have hA0':=hA0.grown hgr3 (by simp);have hA1':=hA1.grown hgr3 (by simp);have hz':=hz.grown hgr3 (by simp);have HS3:=hid (HS2.out.grown hgr3 (by omega) (by simp));have HB3:=hid (HB2.out.trans (grown_below hgr3 (by omega) (fun k e=>by cases e)));have HO3:=hid hown3';clear hown3 hown3' hgr3 HS2 HB2 hA0 hA1 hz;have q1:=((hz'.alloc (.cells #[.slice (some ⟨w2.heap.size,0,none⟩) 0 (L.length+1)] 41)).alloc (.cells #[.int .i64 L.length] 3)).1;have HA0:=hid hA0';have HA1:=hid hA1';clear hA0' hA1' hz';go_wp2_with fail
  go_step3
  go_wp2_with fail;have hNM:w.heap.size<w2.heap.size:=by omega
  have hMQ:w2.heap.size<w3.heap.size:=by omega
  refine (wpIn_wide (n:=4)).1 ?_
  refine wp_each (n₀:=n₀) (by omega) rfl rfl (HS3.out.below (((Below.refl n₀ w3).alloc (by omega) _).alloc (by simp;omega) _)) (by simp;omega)
   (addI w.heap.size w2.heap.size w3.heap.size w (s1,s2) L) (addX w.heap.size w2.heap.size w3.heap.size w (s1,s2) L) (addI_own (Nat.le_refl _) (by simp;omega)) (addX_own (Nat.le_refl _) (by simp;omega)) ?start ?round ?done ?stop
  case start =>
   refine ⟨(s1,s2),[],_,⟨(HA0.out.alloc _).alloc _,(HA1.out.alloc _).alloc _,(At.new _ rfl rfl).alloc _,At.new _ (by simp) rfl,(HO3.out.alloc _).alloc _,(HB3.out.alloc (by omega) _).alloc (by simp;omega) _,fun b e=>by cases e;exact .inl hlt3.2,(takesB_iff.1 htk).2.2.1⟩,Nat.zero_le _,rfl⟩
  case round =>
   rintro l k hk W hl ⟨⟨y1,y2⟩,outs,v,hC,hlen,hadd⟩;have hWs:w3.heap.size+1<W.heap.size:=hC.2.2.2.1.lt;have HV:=hid (hC.2.2.2.2.1.lt);have HV7:=hid hC.2.2.2.2.2.2.1;have hy:y1<y2:=hC.2.2.2.2.2.2.2;have HI:=hid hC;have HG:=hid hadd;have HD:=hid (addF_drop (s:=(y1,y2)) hk);obtain ⟨va,vc,rfl,-⟩:=hC.2.2.2.2.1.at (by omega);clear hC hadd q1 HA0 HA1
   gi_wp2
   refine ⟨(KeepsOthers.alloc _ _).from _,(Below.refl n₀ W).alloc (by omega) _,fun _ W2=>addC w.heap.size w2.heap.size w3.heap.size w (y1,y2) outs (.slice va outs.length vc) L.length W2/\At W.heap.size 0 (.int .i64 L[k].1) W2/\At W.heap.size 1 (.int .i64 L[k].2) W2,?_,⟨addC_alloc HI.out (by omega) _,At.new _ rfl rfl,At.new _ rfl rfl⟩,?_⟩
   ·intro _ A A' row h hg hr;exact ⟨addC_own (B:=_) (Nat.le_refl _) (by first | omega | (simp;omega)) h.1 hg hr,h.2.1.own hg (fun r e=>(hr r e).2),h.2.2.own hg (fun r e=>(hr r e).2)⟩
   rintro W2 ⟨hC,⟨x0,f0⟩,⟨x1,f1⟩⟩;obtain ⟨⟨d0,e0⟩,⟨d1,e1⟩,⟨d2,e2⟩,⟨d3,e3⟩,-⟩:=id hC;have HC:=hid hC;have hbx:=canonF_nth (takesB_iff.1 htk).1 hk;clear HI hC;by_cases c1:L[k].2<y1
   ·have hll:outs.length<=4398046511104:=by omega
    gi_wp2_with (first | (gi_at_builtin;refine wpListIn_append_span _ rfl _ _ rfl w2.heap.size _ _ rfl (HC.out.2.2.2.2.1.alloc _) hll W2.heap.size L[k] rfl (by simp) (by simp) (by have:=HC.out.2.2.1.lt;simp;omega) ?_))
    intro v' W3 ho hg hbl;obtain ⟨va',vc',hv',-⟩:=ho.at (by rw [List.length_append];simp;omega);have hCa:=addC_alloc HC.out (by have:=HC.out.1.lt;omega) (.cells #[.int .i64 L[k].1,.int .i64 L[k].2] 92);have hC3:=addC_app hNM hMQ hCa hg ho (by simpa using hbl) (Nat.le_refl _);have hne:(Value.slice va outs.length vc).ownBlock≠some w3.heap.size:=fun e=>by have:=HV7.out _ e;omega
    obtain ⟨z0,g0⟩:=hCa.2.2.1.grown hg hne;have hk3:=((KeepsOthers.alloc W2 (.cells #[.int .i64 L[k].1,.int .i64 L[k].2] 92)).trans (keeps_own hCa.2.2.2.2.1 hg));have hb3:Below n₀ W2 W3:=((Below.refl n₀ W2).alloc (by have:=HC.out.1.lt;omega) _).trans (grown_below hg (by have:=HC.out.1.lt;simp;omega) (fun b e=>by have:=HV.out _ e;omega));have HK3:=hid hk3;have HB3:=hid hb3;have HC4:=hid hC3;have hlen':(outs++[L[k]]).length<=k+1:=by rw [List.length_append];simp;omega
    have HL':=hid hlen';clear hC3 hk3 hb3 hg hne HC HV d0 d1 d2 d3 e0 e1 e2 e3 x0 x1 f0 f1 ho hCa hbl hlen';generalize (outs++[L[k]]).length=nl at hv';subst hv'
    gi_wp2_with fail
    refine ⟨(HK3.out.trans (KeepsOthers.setCell _ _ _)).from _,HB3.out.setCell (p:=⟨w3.heap.size,0,none⟩) (by show n₀<=w3.heap.size;omega) _,_,_,_,HC4.out,HL'.out,?_⟩;rw [HG.out,HD.out,if_pos c1,List.append_assoc];rfl
   have HN1:=hid (Int.not_lt.1 c1);by_cases c2:y2<L[k].1
   ·gi_wp2_with fail
    exact ⟨(KeepsOthers.setCell _ _ _).from _,_,outs,_,addC_rest hNM hMQ HC.out k,hlen,by rw [HG.out,HD.out,if_neg (Int.not_lt.2 HN1.out),if_pos c2,List.drop_eq_getElem_cons hk],rfl⟩
   have HN2:=hid (Int.not_lt.1 c2);by_cases c3:L[k].1<y1
   ·by_cases c4:y2<L[k].2
    ·have HP:=hid (show (min y1 L[k].1,max y2 L[k].2)=(L[k].1,L[k].2) from Prod.ext (by dsimp only;omega) (by dsimp only;omega))
     gi_wp2_with fail
     exact ⟨((KeepsOthers.setCell _ _ _).trans (KeepsOthers.setCell _ _ _)).from _,((Below.refl n₀ W2).setCell (p:=⟨w.heap.size,0,none⟩) (by show n₀<=w.heap.size;omega) _).setCell (p:=⟨w.heap.size,1,none⟩) (by show n₀<=w.heap.size;omega) _,(L[k].1,L[k].2),outs,_,addC_s hNM hMQ HC.out (L[k].1,L[k].2) (by dsimp only;omega),by omega,by rw [HG.out,HD.out,if_neg (Int.not_lt.2 HN1.out),if_neg (Int.not_lt.2 HN2.out)];rw [HP.out]⟩
    have HP:=hid (show (min y1 L[k].1,max y2 L[k].2)=(L[k].1,y2) from Prod.ext (by dsimp only;omega) (by dsimp only;omega))
    gi_wp2_with fail
    exact ⟨((KeepsOthers.setCell _ _ _).trans (KeepsOthers.setCell _ _ _)).from _,((Below.refl n₀ W2).setCell (p:=⟨w.heap.size,0,none⟩) (by show n₀<=w.heap.size;omega) _).setCell (p:=⟨w.heap.size,1,none⟩) (by show n₀<=w.heap.size;omega) _,(L[k].1,y2),outs,_,addC_s hNM hMQ HC.out (L[k].1,y2) (by dsimp only;omega),by omega,by rw [HG.out,HD.out,if_neg (Int.not_lt.2 HN1.out),if_neg (Int.not_lt.2 HN2.out)];rw [HP.out]⟩
   by_cases c4:y2<L[k].2
   ·have HP:=hid (show (min y1 L[k].1,max y2 L[k].2)=(y1,L[k].2) from Prod.ext (by dsimp only;omega) (by dsimp only;omega))
    gi_wp2_with fail
    exact ⟨((KeepsOthers.setCell _ _ _).trans (KeepsOthers.setCell _ _ _)).from _,((Below.refl n₀ W2).setCell (p:=⟨w.heap.size,0,none⟩) (by show n₀<=w.heap.size;omega) _).setCell (p:=⟨w.heap.size,1,none⟩) (by show n₀<=w.heap.size;omega) _,(y1,L[k].2),outs,_,addC_s hNM hMQ HC.out (y1,L[k].2) (by dsimp only;omega),by omega,by rw [HG.out,HD.out,if_neg (Int.not_lt.2 HN1.out),if_neg (Int.not_lt.2 HN2.out)];rw [HP.out]⟩
   have HP:=hid (show (min y1 L[k].1,max y2 L[k].2)=(y1,y2) from Prod.ext (by dsimp only;omega) (by dsimp only;omega))
   gi_wp2_with fail
   exact ⟨((KeepsOthers.setCell _ _ _).trans (KeepsOthers.setCell _ _ _)).from _,((Below.refl n₀ W2).setCell (p:=⟨w.heap.size,0,none⟩) (by show n₀<=w.heap.size;omega) _).setCell (p:=⟨w.heap.size,1,none⟩) (by show n₀<=w.heap.size;omega) _,(y1,y2),outs,_,addC_s hNM hMQ HC.out (y1,y2) (by dsimp only;omega),by omega,by rw [HG.out,HD.out,if_neg (Int.not_lt.2 HN1.out),if_neg (Int.not_lt.2 HN2.out)];rw [HP.out]⟩
  case done =>
   rintro D W hD ⟨⟨y1,y2⟩,outs,v,hC,hlen,hadd⟩ hDf;rw [List.drop_length] at hadd;have hD2:w.heap.size<=D:=by simp at hD;omega
   obtain ⟨va,vc,rfl,-⟩:=hC.2.2.2.2.1.at (by omega);obtain ⟨⟨d0,-⟩,⟨d1,-⟩,⟨d2,-⟩,⟨d3,-⟩,-⟩:=id hC;have hy:y1<y2:=hC.2.2.2.2.2.2.2;have HC:=hid hC;have HG:=hid hadd;have HDF:=hid hDf;have hW2:w3.heap.size+1<W.heap.size:=hC.2.2.2.1.lt;have hr:L.length<=L.length:=by omega
   have hr2:L.length<=cap:=by omega
   clear hC hadd hDf hD q1 HA0 HA1;go_wp2_with fail;refine wp_mono (Q:=noPanic _) ?_ (noPanic_le _);refine wp_region_held_drew (S:=(fun w':World=>w'.cell? ⟨w3.heap.size,0,none⟩=some (.slice va outs.length vc)/\w'.cell? ⟨w.heap.size,0,none⟩=some (.int .i64 y1)/\w'.cell? ⟨w.heap.size,1,none⟩=some (.int .i64 y2)/\w'.cell? ⟨w3.heap.size+1,0,none⟩=some (.int .i64 (L.length:Int)))) (by kernel_rfl) (⟨d2,d0,d1,d3⟩) (fun hZ=> ?_);refine wpT 0 ?_;refine wpT 1 ?_;refine wpT 4 ?_;refine wpT 5 ?_;refine wpT 6 ?_;have HC1:=hid (addC_drew HC.out);have HC2:=hid (addC_alloc HC1.out (by show w.heap.size<=W.heap.size;omega) (.cells #[.int .i64 y1,.int .i64 y2] 92));refine wpR 2 fun Kq hKq=> ?_;go_simp;refine hKq.out _ _ (⟨HC2.out.2.2.1.1,HC2.out.1.1,HC2.out.2.1.1,HC2.out.2.2.2.1.1⟩) fun hI=>wpA ?_;clear hKq Kq hZ;have hZ:=hI;clear hI;refine wpR 3 fun Kq hKq=> ?_;go_simp;refine (with_len (W.drew.alloc (.cells #[.int .i64 y1,.int .i64 y2] 92)) w2.heap.size (W.heap.size+1) (.slice va outs.length vc) outs _ _ [(y1,y2)] HC2.out.2.2.2.2.1 (by omega) (by simp;omega) (sp_one (W:=W.drew) _ _ (Nat.le_refl _)) (by simp) (by intro _ ad e;cases e;exact fun e=>by have:=(HC1.out.2.2.2.2.1.lt _ e).2;simp at this) 1 rfl).mono ?_;rintro e W5 ⟨v1,rfl,ho1,hg1,hbl1⟩;rw [withL_one,one,if_pos hy] at ho1;have hne:∀ b,b<w2.heap.size∨b=w3.heap.size∨b=w3.heap.size+1->(Value.slice va outs.length vc).ownBlock≠some b:=fun b hb e=>by have:=(HC.out.2.2.2.2.1.lt _ e).1;have:=HC.out.2.2.2.2.2.2.1 _ e;omega
   have z0:=HC2.out.1.grown hg1 (hne _ (by omega));have z1:=HC2.out.2.1.grown hg1 (hne _ (by omega));have z2:=HC2.out.2.2.1.grown hg1 (hne _ (by omega));have z3:=HC2.out.2.2.2.1.grown hg1 (hne _ (by omega));have hD5:=((KeepsOthers.drew W).trans ((KeepsOthers.alloc _ _).trans (keeps_own HC2.out.2.2.2.2.1 hg1))).same D _ HDF.out rfl;have hb5:Below w.heap.size w W5:=HC2.out.2.2.2.2.2.1.trans (grown_below hg1 (by simp;omega) (fun b e=>by have:=(HC.out.2.2.2.2.1.lt _ e).1;omega));have hs5:W.heap.size<=W5.heap.size:=by have:=hg1.size;simp at this;omega
   have HD5:=hid hD5;have HB5:=hid hb5;have HO5:=hid ho1;have hne1:∀ b,b<w2.heap.size∨b=w3.heap.size∨b=w3.heap.size+1->v1.ownBlock≠some b:=fun b hb e=>by { have h1:=(ho1.lt _ e).1;rcases hbl1 with h | ⟨j,h,hj⟩;(rw [h] at e;exact hne b hb e);(rw [h] at e;cases e;simp at hj;omega) }
   have HZ:=hid (show _/\_/\_/\_ from ⟨z0,z1,z2,z3⟩);have HN1:=hid hne1;clear hD5 hb5 ho1 hg1 hne hbl1 hne1;go_simp;refine hKq.out _ _ (⟨z2.1,z0.1,z1.1,z3.1⟩) fun hI=>wpA ?_;clear hKq Kq hZ;have hZ:=hI;clear hI;clear z0 z1 z2 z3;refine wpR 7 fun Kq hKq=> ?_;go_simp;refine (with_len W5 w2.heap.size n₀ v1 (outs++[(y1,y2)]) _ _ (L.drop L.length) HO5.out (by rw [List.length_append];simp;omega) (by omega) (((HS3.out.drop hcap L.length).below (below_of hn HB3.out HB5.out (by omega)))) (by omega) (by intro hp ad e;obtain ⟨b,off,e2,hb,-⟩:=(HS3.out.drop hcap L.length).cells hp;rw [e2] at e;cases e;exact fun e=>by have:=(HO5.out.lt _ e).1;simp at this;omega) _ (by simp)).mono ?_;rintro e W6 ⟨v2,rfl,ho2,hg2,-⟩;have hne:∀ b,b<w2.heap.size->v1.ownBlock≠some b:=fun b hb e=>by have:=(HO5.out.lt _ e).1;omega
   have hD6:=(keeps_own HO5.out hg2).same D _ HD5.out rfl;have hb6:Below w.heap.size w W6:=HB5.out.trans (grown_below hg2 (by omega) (fun b e=>by have:=(HO5.out.lt _ e).1;omega));obtain ⟨z0,z1,z2,z3⟩:=HZ.out;replace z0:=z0.grown hg2 (HN1.out _ (by omega));replace z1:=z1.grown hg2 (HN1.out _ (by omega));replace z2:=z2.grown hg2 (HN1.out _ (by omega));replace z3:=z3.grown hg2 (HN1.out _ (by omega));have HD6:=hid hD6;have HB6:=hid hb6;have HO6:=hid ho2;clear hD6 hb6 ho2 hne hg2;go_simp;refine hKq.out _ _ (⟨z2.1,z0.1,z1.1,z3.1⟩) fun hI=>wpA ?_;clear hKq Kq hZ;have hZ:=hI;clear hI;clear z0 z1 z2 z3;refine wpT 8 ?_;refine wpAnyH_done (by kernel_rfl) ?_ _;simp only [noPanic];go_wp2_with fail
   all_goals
    refine ret_marks rfl HD6.out ⟨_,rfl,?_,below_take HB6.out (Nat.le_refl _) hD2⟩;unfold addL;rw [if_pos htk,HG.out];have:=HO6.out;rw [List.drop_length,show withL ([]:List Sp)=[] from rfl,List.append_nil] at this;exact (this.own (grownBy_putObj' W6 D _) (fun r e=>by cases e;exact ⟨_,HD6.out,rfl⟩)).mono (by omega)
  case stop =>
   rintro D c k W hD hk ⟨⟨y1,y2⟩,outs,v,hC,hlen,hadd,rfl⟩ hDf;have hD2:w.heap.size<=D:=by simp at hD;omega
   obtain ⟨va,vc,rfl,-⟩:=hC.2.2.2.2.1.at (by omega);obtain ⟨⟨d0,-⟩,⟨d1,-⟩,⟨d2,-⟩,⟨d3,-⟩,-⟩:=id hC;have hy:y1<y2:=hC.2.2.2.2.2.2.2;have HC:=hid hC;have HG:=hid hadd;have HDF:=hid hDf;have hW2:w3.heap.size+1<W.heap.size:=hC.2.2.2.1.lt;have hr:k<=L.length:=by omega
   have hr2:k<=cap:=by omega
   clear hC hadd hDf hD q1 HA0 HA1;refine wpIn_wide.2 ?_;go_wp2_with fail;refine wp_mono (Q:=noPanic _) ?_ (noPanic_le _);refine wp_region_held_drew (S:=(fun w':World=>w'.cell? ⟨w3.heap.size,0,none⟩=some (.slice va outs.length vc)/\w'.cell? ⟨w.heap.size,0,none⟩=some (.int .i64 y1)/\w'.cell? ⟨w.heap.size,1,none⟩=some (.int .i64 y2)/\w'.cell? ⟨w3.heap.size+1,0,none⟩=some (.int .i64 (k:Int)))) (by kernel_rfl) (⟨d2,d0,d1,d3⟩) (fun hZ=> ?_);refine wpT 0 ?_;refine wpT 1 ?_;refine wpT 4 ?_;refine wpT 5 ?_;refine wpT 6 ?_;have HC1:=hid (addC_drew HC.out);have HC2:=hid (addC_alloc HC1.out (by show w.heap.size<=W.heap.size;omega) (.cells #[.int .i64 y1,.int .i64 y2] 92));refine wpR 2 fun Kq hKq=> ?_;go_simp;refine hKq.out _ _ (⟨HC2.out.2.2.1.1,HC2.out.1.1,HC2.out.2.1.1,HC2.out.2.2.2.1.1⟩) fun hI=>wpA ?_;clear hKq Kq hZ;have hZ:=hI;clear hI;refine wpR 3 fun Kq hKq=> ?_;go_simp;refine (with_len (W.drew.alloc (.cells #[.int .i64 y1,.int .i64 y2] 92)) w2.heap.size (W.heap.size+1) (.slice va outs.length vc) outs _ _ [(y1,y2)] HC2.out.2.2.2.2.1 (by omega) (by simp;omega) (sp_one (W:=W.drew) _ _ (Nat.le_refl _)) (by simp) (by intro _ ad e;cases e;exact fun e=>by have:=(HC1.out.2.2.2.2.1.lt _ e).2;simp at this) 1 rfl).mono ?_;rintro e W5 ⟨v1,rfl,ho1,hg1,hbl1⟩;rw [withL_one,one,if_pos hy] at ho1;have hne:∀ b,b<w2.heap.size∨b=w3.heap.size∨b=w3.heap.size+1->(Value.slice va outs.length vc).ownBlock≠some b:=fun b hb e=>by have:=(HC.out.2.2.2.2.1.lt _ e).1;have:=HC.out.2.2.2.2.2.2.1 _ e;omega
   have z0:=HC2.out.1.grown hg1 (hne _ (by omega));have z1:=HC2.out.2.1.grown hg1 (hne _ (by omega));have z2:=HC2.out.2.2.1.grown hg1 (hne _ (by omega));have z3:=HC2.out.2.2.2.1.grown hg1 (hne _ (by omega));have hD5:=((KeepsOthers.drew W).trans ((KeepsOthers.alloc _ _).trans (keeps_own HC2.out.2.2.2.2.1 hg1))).same D _ HDF.out rfl;have hb5:Below w.heap.size w W5:=HC2.out.2.2.2.2.2.1.trans (grown_below hg1 (by simp;omega) (fun b e=>by have:=(HC.out.2.2.2.2.1.lt _ e).1;omega));have hs5:W.heap.size<=W5.heap.size:=by have:=hg1.size;simp at this;omega
   have HD5:=hid hD5;have HB5:=hid hb5;have HO5:=hid ho1;have hne1:∀ b,b<w2.heap.size∨b=w3.heap.size∨b=w3.heap.size+1->v1.ownBlock≠some b:=fun b hb e=>by { have h1:=(ho1.lt _ e).1;rcases hbl1 with h | ⟨j,h,hj⟩;(rw [h] at e;exact hne b hb e);(rw [h] at e;cases e;simp at hj;omega) }
   have HZ:=hid (show _/\_/\_/\_ from ⟨z0,z1,z2,z3⟩);have HN1:=hid hne1;clear hD5 hb5 ho1 hg1 hne hbl1 hne1;go_simp;refine hKq.out _ _ (⟨z2.1,z0.1,z1.1,z3.1⟩) fun hI=>wpA ?_;clear hKq Kq hZ;have hZ:=hI;clear hI;clear z0 z1 z2 z3;refine wpR 7 fun Kq hKq=> ?_;go_simp;refine (with_len W5 w2.heap.size n₀ v1 (outs++[(y1,y2)]) _ _ (L.drop k) HO5.out (by rw [List.length_append];simp;omega) (by omega) (((HS3.out.drop hcap k).below (below_of hn HB3.out HB5.out (by omega)))) (by omega) (by intro hp ad e;obtain ⟨b,off,e2,hb,-⟩:=(HS3.out.drop hcap k).cells hp;rw [e2] at e;cases e;exact fun e=>by have:=(HO5.out.lt _ e).1;simp at this;omega) _ (by simp)).mono ?_;rintro e W6 ⟨v2,rfl,ho2,hg2,-⟩;have hne:∀ b,b<w2.heap.size->v1.ownBlock≠some b:=fun b hb e=>by have:=(HO5.out.lt _ e).1;omega
   have hD6:=(keeps_own HO5.out hg2).same D _ HD5.out rfl;have hb6:Below w.heap.size w W6:=HB5.out.trans (grown_below hg2 (by omega) (fun b e=>by have:=(HO5.out.lt _ e).1;omega));obtain ⟨z0,z1,z2,z3⟩:=HZ.out;replace z0:=z0.grown hg2 (HN1.out _ (by omega));replace z1:=z1.grown hg2 (HN1.out _ (by omega));replace z2:=z2.grown hg2 (HN1.out _ (by omega));replace z3:=z3.grown hg2 (HN1.out _ (by omega));have HD6:=hid hD6;have HB6:=hid hb6;have HO6:=hid ho2;clear hD6 hb6 ho2 hne hg2;go_simp;refine hKq.out _ _ (⟨z2.1,z0.1,z1.1,z3.1⟩) fun hI=>wpA ?_;clear hKq Kq hZ;have hZ:=hI;clear hI;clear z0 z1 z2 z3;refine wpT 8 ?_;refine wpAnyH_done (by kernel_rfl) ?_ _;simp only [noPanic];go_wp2_with fail
   all_goals
    refine ret_marks rfl HD6.out ⟨_,rfl,?_,below_take HB6.out (Nat.le_refl _) hD2⟩;unfold addL;rw [if_pos htk,HG.out];have hcd:=(canonF_drop2 (takesB_iff.1 htk).1 k).choose_spec;have:=HO6.out;rw [withL_canon hcd,List.append_assoc] at this;exact (this.own (grownBy_putObj' W6 D _) (fun r e=>by cases e;exact ⟨_,HD6.out,rfl⟩)).mono (by omega)
end
section
open Go.RowKit Go.Shelf
def bxCells (R:Nat) (b:Bx) (a:Option Addr) (cap:Nat):Array Value:= #[.slice (some ⟨R,0,none⟩) b.ring.length b.ring.length,.int .i64 b.rd,.int .i64 b.nx,.slice a b.bl.length cap,.int .i64 b.nw]
def Apart (B R lb:Nat) (bl:List Sp) (a:Option Addr):Prop:=(∀ ad,a=some ad->ad=⟨ad.block,ad.off,none⟩)/\(0<bl.length->∀ ad,a=some ad->ad.block≠B/\ad.block≠R/\lb<=ad.block)
structure SpTAt (w:World) (a:Option Addr) (L:List Sp):Prop extends SpAt w w.heap.size a L where
 ty:0<L.length->∀ ad,a=some ad->TyB w ad.block 92
def BoxAt (B R lb:Nat) (b:Bx) (w:World):Prop :=
 B≠R/\RingAt R b.ring w/\∃ a cap,w.heap[B]? =some (.cells (bxCells R b a cap) 156 (0,0))/\SpTAt w a b.bl/\b.bl.length<=cap/\Apart B R lb b.bl a
structure Chg2 (B R:Nat) (w w':World):Prop where
 os:w'.os=w.os
 tape:w'.tape=w.tape
 output:w'.output=w.output
 size:w.heap.size<=w'.heap.size
 block:∀ k,k<w.heap.size->k≠B->k≠R->w'.heap[k]? =w.heap[k]?
theorem Chg2.refl (B R:Nat) (w:World):Chg2 B R w w:=⟨rfl,rfl,rfl,Nat.le_refl _,fun _ _ _ _=>rfl⟩
theorem Chg2.trans {B R:Nat} {a b c:World} (h:Chg2 B R a b) (k:Chg2 B R b c):Chg2 B R a c :=
 ⟨k.os.trans h.os,k.tape.trans h.tape,k.output.trans h.output,Nat.le_trans h.size k.size,fun i hi hB hR=>(k.block i (Nat.lt_of_lt_of_le hi h.size) hB hR).trans (h.block i hi hB hR)⟩
theorem Chg2.of1 {B R:Nat} {a b:World} (h:Chg B a b):Chg2 B R a b:=⟨h.os,h.tape,h.output,h.size,fun i hi hB _=>h.block i hi hB⟩
theorem Chg2.of2 {B R:Nat} {a b:World} (h:Chg R a b):Chg2 B R a b:=⟨h.os,h.tape,h.output,h.size,fun i hi _ hR=>h.block i hi hR⟩
theorem Chg2.of_below {B R:Nat} {w w':World} (h:Below w.heap.size w w'):Chg2 B R w w':=⟨h.os,h.tape,h.output,h.size,fun k hk _ _=>h.block k hk⟩
theorem BoxAt.lt {B R lb:Nat} {b:Bx} {w:World} (h:BoxAt B R lb b w):B<w.heap.size/\R<w.heap.size:=by
 obtain ⟨_,hr,a,cap,hb,_⟩:=h;exact ⟨(Array.getElem?_eq_some_iff.1 hb).1,(Array.getElem?_eq_some_iff.1 hr).1⟩
theorem BoxAt.ats {B R lb:Nat} {b:Bx} {w:World} (h:BoxAt B R lb b w):∃ a cap,At B 0 (.slice (some ⟨R,0,none⟩) b.ring.length b.ring.length) w/\At B 1 (.int .i64 b.rd) w/\At B 2 (.int .i64 b.nx) w/\At B 3 (.slice a b.bl.length cap) w/\At B 4 (.int .i64 b.nw) w/\SpAt w w.heap.size a b.bl/\b.bl.length<=cap/\Apart B R lb b.bl a:=by
 obtain ⟨_,_,a,cap,hb,h1,h2,h3⟩:=h;have c:∀ i v,(bxCells R b a cap)[i]? =some v->At B i v w:=fun i v hv=>⟨by rw [cell_of_row _ _ _ _ _ _ hb];exact hv,frozen_of_row _ _ _ _ _ hb⟩;exact ⟨a,cap,c 0 _ rfl,c 1 _ rfl,c 2 _ rfl,c 3 _ rfl,c 4 _ rfl,h1.toSpAt,h2,h3⟩
theorem BoxAt.typed {B R lb n cap:Nat} {a:Option Addr} {b:Bx} {w:World} (h:BoxAt B R lb b w) (hc:w.cell? ⟨B,3,none⟩=some (.slice a n cap)) (hp:0<b.bl.length) (ad:Addr) (ha:a=some ad):TyB w ad.block 92:=by
 obtain ⟨_,_,a',cap',hbk,h1,_⟩:=h;have c3:w.cell? ⟨B,3,none⟩=some (.slice a' b.bl.length cap'):=by rw [cell_of_row _ _ _ _ _ _ hbk];rfl
 have e:=hc.symm.trans c3
 injection e with e
 injection e with e1 e2 e3
 exact h1.ty hp ad (e1.symm.trans ha)
theorem BoxAt.below {B R lb:Nat} {b:Bx} {w w':World} (h:BoxAt B R lb b w) (hb:Below w.heap.size w w'):BoxAt B R lb b w':=by
 have hl:=h.lt;obtain ⟨h0,hr,a,cap,hbk,h1,h2,h3⟩:=h;exact ⟨h0,(hb.block R hl.2).trans hr,a,cap,(hb.block B hl.1).trans hbk,⟨(h1.toSpAt.below hb).mono hb.size,fun hp ad e=>(h1.ty hp ad e).of (hb.block _ (h1.ty hp ad e).lt)⟩,h2,h3⟩
theorem BoxAt.alloc {B R lb:Nat} {b:Bx} {w:World} (h:BoxAt B R lb b w) (o:Obj):BoxAt B R lb b (w.alloc o):=h.below ((Below.refl _ w).alloc (Nat.le_refl _) o)
theorem BoxAt.drew {B R lb:Nat} {b:Bx} {w:World} (h:BoxAt B R lb b w):BoxAt B R lb b w.drew:=h.below (Below.refl _ w).drew
theorem BoxAt.set {B R lb:Nat} {b b':Bx} {w:World} (h:BoxAt B R lb b w) (i:Nat) (v:Value) (hr:b'.ring=b.ring) (hbl:b'.bl=b.bl) (he:∀ a cap,(bxCells R b a cap).setIfInBounds i v=bxCells R b' a cap):BoxAt B R lb b' (w.setCell ⟨B,i,none⟩ v):=by
 have hl:=h.lt;obtain ⟨h0,hrg,a,cap,hbk,h1,h2,h3⟩:=h;refine ⟨h0,?_,a,cap,?_,?_,by rw [hbl];exact h2,by rw [hbl];exact h3⟩
 ·unfold RingAt;rw [hr,heap_setCell_other w ⟨B,i,none⟩ R v (Ne.symm h0)];exact hrg
 ·rw [heap_setCell_same _ _ _ _ _ _ hbk,he]
 rw [hbl];refine ⟨⟨h1.small,fun hp=> ?_⟩,fun hp ad e=>(h1.ty hp ad e).of (heap_setCell_other _ _ _ _ (h3.2 hp ad e).1)⟩;obtain ⟨bb,off,ha,hb,hcs⟩:=h1.cells hp;have hne:=(h3.2 hp _ ha).1;exact ⟨bb,off,ha,by simp [World.setCell];exact hb,fun i' hi=>⟨by rw [World.cell?_setCell_other _ _ _ _ (fun e=>hne (congrArg Addr.block e).symm)];exact (hcs i' hi).1,by rw [World.cell?_setCell_other _ _ _ _ (fun e=>hne (congrArg Addr.block e).symm)];exact (hcs i' hi).2⟩⟩
theorem BoxAt.setBl {B R lb:Nat} {b:Bx} {w:World} (h:BoxAt B R lb b w) (a':Option Addr) (cap':Nat) (L:List Sp) (hs:SpAt w w.heap.size a' L) (hcap:L.length<=cap') (hap:Apart B R lb L a') (hty:0<L.length->∀ ad,a'=some ad->TyB w ad.block 92):BoxAt B R lb { b with bl:=L } (w.setCell ⟨B,3,none⟩ (.slice a' L.length cap')):=by
 obtain ⟨h0,hrg,a,cap,hbk,h1,h2,h3⟩:=h;refine ⟨h0,?_,a',cap',?_,?_,hcap,hap⟩
 ·unfold RingAt;rw [heap_setCell_other w ⟨B,3,none⟩ R _ (Ne.symm h0)];exact hrg
 ·rw [heap_setCell_same _ _ _ _ _ _ hbk];rfl
 refine ⟨⟨hs.small,fun hp=> ?_⟩,fun hp ad e=>(hty hp ad e).of (heap_setCell_other _ _ _ _ (hap.2 hp ad e).1)⟩;obtain ⟨bb,off,ha,hb,hcs⟩:=hs.cells hp;have hne:=(hap.2 hp _ ha).1;exact ⟨bb,off,ha,by simp [World.setCell];exact hb,fun i' hi=>⟨by rw [World.cell?_setCell_other _ _ _ _ (fun e=>hne (congrArg Addr.block e).symm)];exact (hcs i' hi).1,by rw [World.cell?_setCell_other _ _ _ _ (fun e=>hne (congrArg Addr.block e).symm)];exact (hcs i' hi).2⟩⟩
theorem BoxAt.ring {B R lb:Nat} {b:Bx} {rg:List UInt8} {w w':World} (h:BoxAt B R lb b w) (hlen:rg.length=b.ring.length) (hr:RingAt R rg w') (hc:Chg R w w'):BoxAt B R lb { b with ring:=rg } w':=by
 have hl:=h.lt;obtain ⟨h0,hrg,a,cap,hbk,h1,h2,h3⟩:=h;refine ⟨h0,hr,a,cap,?_,⟨⟨h1.small,fun hp=> ?_⟩,fun hp ad e=>(h1.ty hp ad e).of (hc.block _ (h1.ty hp ad e).lt (h3.2 hp ad e).2.1)⟩,h2,h3⟩
 ·rw [hc.block B hl.1 h0,hbk];unfold bxCells;dsimp only;rw [hlen]
 obtain ⟨bb,off,ha,hb,hcs⟩:=h1.cells hp;have hk:=hc.block bb hb (h3.2 hp _ ha).2.1;exact ⟨bb,off,ha,Nat.lt_of_lt_of_le hb hc.size,fun i hi=>⟨(World.cell?_of_block (a:=⟨bb,_,none⟩) hk).trans (hcs i hi).1,(World.cell?_of_block (a:=⟨bb,_,none⟩) hk).trans (hcs i hi).2⟩⟩
theorem end_any (B R lb:Nat) (b:Bx) (w:World) (h:BoxAt B R lb b w) (ok:b.Ok) :
  Calls Tryz.prog 205 #[.pointer (some ⟨B,0,none⟩)] w fun e w'=>e= .returned (.int .i64 (b.rd+b.ring.length))/\w'=w.drew:=by
 obtain ⟨a,cap,⟨c0,-⟩,⟨c1,-⟩,-⟩:=h.ats;have h1:=ok.rd0;have h2:=ok.small;have h3:=ok.most
 go_enter Tryz.func205,Tryz.ntmps205
 go_wp2
 go_region
 all_goals
  go_wp2
  go_ret;exact ⟨rfl,rfl⟩
theorem next_any (B R lb:Nat) (b:Bx) (w:World) (h:BoxAt B R lb b w) :
  Calls Tryz.prog 110 #[.pointer (some ⟨B,0,none⟩)] w fun e w'=>e= .returned (.int .i64 b.nx)/\w=w':=by
 obtain ⟨a,cap,-,-,⟨c2,-⟩,-⟩:=h.ats
 go_enter Tryz.func110,Tryz.ntmps110
 go_wp2
 go_ret;exact ⟨rfl,rfl⟩
end
end Go.Proofs.YtclkcmidhhfdmaaGreatDoor
