import Derived.Test.YtclkcmidhhfdmaaGreatDoorUb2
import Derived.Test.YtclkcmidhhfdmaaGreatDoorUb5
import Derived.Lib.BufferWrite
import Derived.Deep.RegionLaw
import Derived.BigRegion
import Derived.Laws.CopyOwn
import Derived.BigQuiet
import Derived.IntWalk
namespace Go.Proofs.YtclkcmidhhfdmaaGreatDoor
open Lib (hid)
section
set_option maxRecDepth 100000
open Go.RowKit Go.Shelf
theorem run_copy_str {P:Program}(w:World)(dT sT ty elem:TypeId)(g o dLen dCap:Nat)(s:ByteArray)(cur:Array Value)(t:TypeId)
  (hu:P.underlying dT=some (.slice elem))(hs:(P.info? elem).map (·.size)=some 1)(hg:w.heap[g]? =some (.cells cur t (0,0)))(hfit:o+min s.size dLen<=cur.size) :
  (Builtin.copy_ #[dT,sT] ty #[.slice (some ⟨g,o,none⟩) dLen dCap,.string s]).run P w =
   .ok (goInt (min s.size dLen:Nat)) (w.setRow g (cur.toList.take o++Lib.byteCells (s.data.toList.take (min s.size dLen))++cur.toList.drop (o+min s.size dLen)).toArray):=by
 have hlen:(Lib.byteCells (s.data.toList.take (min s.size dLen))).length=min s.size dLen:=by rw[Lib.byteCells_length,List.length_take,<-Lib.size_eq];omega
 have hst:=run_storeCells_at P g o t (Lib.byteCells (s.data.toList.take (min s.size dLen))) 0 cur w hg (by rw[hlen];simpa using hfit) (Lib.byteCells_one _)
 have htk:List.take (min s.size dLen) (List.map (fun b:UInt8=>Value.int IntKind.u8 (b.toNat:Int)) s.data.toList)=Lib.byteCells (s.data.toList.take (min s.size dLen)):=by
  rw[<-List.map_take];rfl
 have hmin:Nat.min s.size dLen=min s.size dLen:=rfl;rw[hlen]at hst;simp only[Nat.add_zero]at hst
 cases hq:P.info? elem with
 | none=>simp[hq]at hs
 | some i =>
  simp[Builtin.copy_,run_underlying hu,Builtin.lenOf,Builtin.firstCells,sizeOf,typeInfo,hq,hmin]
  rw[htk,hst]
  simp[Result.andThen]
theorem step_copy_str {P:Program}{ops:Array Oper}{o:Oper}{a:Act}{w:World}{K:Act->World->Prop}{Q:Exit->Act->World->Prop}{E:Prop}(hgd:o.guard=none)(d s:Operand)(dT sT:TypeId)
  (ho:o.op= .call { callee:=.builtin .copy,args:= #[d,s],argTypes:= #[dT,sT] })(elem:TypeId)(hu:P.underlying dT=some (.slice elem))(hsz:(P.info? elem).map (·.size)=some 1)
  (g off dLen dCap:Nat)(hd:a.eval d= .slice (some ⟨g,off,none⟩) dLen dCap)(str:ByteArray)(hs:a.eval s= .string str)
  (cur:Array Value)(t:TypeId)(hg:w.heap[g]? =some (.cells cur t (0,0)))(hfit:off+min str.size dLen<=cur.size)
  (h:∀w',Hid (w'.heap[g]? =some (.cells (cur.toList.take off++Lib.byteCells (str.data.toList.take (min str.size dLen))++cur.toList.drop (off+min str.size dLen)).toArray t (0,0)))->Hid (Chg g w w')->K (a.put o.dst (goInt (min str.size dLen:Nat))) w') :
  if Region.wanted o (yielded ops a.tmps)=true then Oper.wp P o a w K Q else E:=by
 have hw:Region.wanted o (yielded ops a.tmps)=true:=by simp[Region.wanted,hgd]
 rw[if_pos hw];have hrun:=run_copy_str (P:=P) w dT sT o.type elem g off dLen dCap str cur t hu hsz hg hfit;unfold Oper.wp;simp only[execOp,ho,resolve,invoke,builtin,Sem.run_bind,Sem.run_pure,Result.andThen_ok,List.map_toArray,List.map_cons,List.map_nil,hs,hd,hrun];exact h _ (setRow_heap w g cur _ t _ hg) ⟨rfl,rfl,rfl,by simp,fun k _ hk=>setRow_other w g k _ hk⟩
theorem byteCells_splB (rg:List UInt8)(o:Nat)(cs:List UInt8):Lib.byteCells (splB rg o cs)=(Lib.byteCells rg).take o++Lib.byteCells cs++(Lib.byteCells rg).drop (o+cs.length):=by
 unfold splB Lib.byteCells;rw[List.map_append,List.map_append,List.map_take,List.map_drop,List.append_assoc]
theorem chg_cell {R B i:Nat}{v:Value}{w w':World}(h:Chg R w w')(hc:w.cell? ⟨B,i,none⟩=some v)(hne:B≠R):w'.cell? ⟨B,i,none⟩=some v :=
 (World.cell?_of_block (a:=⟨B,i,none⟩) (h.block B (block_lt_of_cell hc) hne)).trans hc
theorem Chg.drew0 {B:Nat}{w w':World}(h:Chg B w.drew w'):Chg B w w':=⟨h.os,h.tape,h.output,h.size,h.block⟩
theorem ext_drop (s:ByteArray)(m:Nat):(s.extract m s.size).data.toList=s.data.toList.drop m:=by
 rw[ByteArray.data_extract,Array.toList_extract,List.extract_eq_take_drop];exact List.take_of_length_le (by rw[List.length_drop,Array.length_toList];exact Nat.le_refl _)
def RingAt (R:Nat)(rg:List UInt8)(w:World):Prop:=w.heap[R]? =some (.cells (Lib.byteCells rg).toArray 5 (0,0))
set_option maxHeartbeats 1000000 in
theorem fill_any (B R:Nat) (rg:List UInt8) (k:Nat) (s:ByteArray) (w:World) (hB:w.cell? ⟨B,0,none⟩=some (.slice (some ⟨R,0,none⟩) rg.length rg.length)) (hR:RingAt R rg w) (hne:B≠R) (h1:1<=rg.length) (hn:rg.length<=8192)
  (hs:s.size<=rg.length) (hk:k<=4611686018427387904) :
  Calls Tryz.prog 215 #[.pointer (some ⟨B,0,none⟩),.int .i64 k,.string s] w fun e w'=>e= .returned (.tuple #[])/\RingAt R (fillB rg k s.data.toList) w'/\Chg R w w':=by
 obtain⟨n,hln⟩:∃n,n=rg.length:=⟨_,rfl⟩;rw[<-hln]at hB h1 hn hs;have hlt:k%n<n:=Nat.mod_lt _ (by omega);have hmod:(k:Int).tmod (n:Int)=((k%n:Nat):Int):=by rw[Int.tmod_eq_emod_of_nonneg (by omega)];rfl
 have HLN:=hid hln;clear hln;generalize hko:k%n=o at *;have HKO:=hid hko;clear hko;have hno:n≠o:=by omega
 have HR:=hid hR;clear hR;have hcn:(Lib.byteCells rg).toArray.size=n:=by rw[List.size_toArray,Lib.byteCells_length];exact HLN.symm
 have HCN:=hid hcn;clear hcn;have hz:n≠0:=by omega
 have hle:o<=n:=by omega
 go_enter Tryz.func215,Tryz.ntmps215
 go_wp2_with fail
 go_region_law (refine step_copy_str rfl _ _ _ _ rfl 5 Tryz.underlying112 (by kernel_rfl) R o (n-o) (n-o) (by simp[Act.eval,Act.put]) s (by simp[Act.eval,Act.put]) _ _ HR.o (by rw[HCN.o];omega) ?_;intro w1 hr1 hc1;have hB1:=chg_cell hc1.out (show w.drew.cell? _=_ from hB) hne)
 all_goals
  obtain⟨m,hm⟩:∃m,m=min s.size (n-o):=⟨_,rfl⟩
  have hr2:RingAt R (splB rg o (s.data.toList.take m)) w1:=by
   have h:=hr1.out;unfold RingAt;rw[byteCells_splB,List.length_take,<-Lib.size_eq,show min m s.size=m by omega];rw[<-hm]at h;exact h
  rw[<-hm];clear hr1 HR HCN;have HM:=hid hm;have HR2:=hid hr2;have hms:m<=s.size:=by omega
  have hrl:(Lib.byteCells (splB rg o (s.data.toList.take m))).toArray.size=n:=by rw[List.size_toArray,Lib.byteCells_length,length_splB _ _ _ (by rw[List.length_take,<-HLN.o];omega)];exact HLN.symm
  have HRL:=hid hrl;clear hrl;clear hm hr2;go_wp2_with fail
  go_region_law (refine step_copy_str rfl _ _ _ _ rfl 5 Tryz.underlying112 (by kernel_rfl) R 0 n n (by simp[Act.eval]) (s.extract m s.size) (by simp[Act.eval]) _ _ HR2.o (by rw[HRL.o];omega) ?_;intro w2 hr3 hc3)
  refine bodyPost_end (results_none rfl _ _ _) rfl ⟨rfl,?_,hc1.out.drew0.trans hc3.out.drew0⟩;have h:=hr3.out;rw[ext_drop,show min (s.extract m s.size).size n=(s.data.toList.drop m).length by rw[ByteArray.size_extract,List.length_drop,<-Lib.size_eq];omega,List.take_length]at h;unfold RingAt fillB;rw[<-HLN.o,HKO.o,byteCells_splB,<-Lib.size_eq,<-HM.o];exact h
end
section
set_option maxRecDepth 100000
open Go.RowKit Go.Shelf
attribute [local go_sem] Oper.semAt_some
theorem addF_drop {s:Sp}{L:List Sp}{k:Nat}(h:k<L.length):addF s (L.drop k)=if L[k].2<s.1 then L[k]::addF s (L.drop (k+1))else if s.2<L[k].1 then s::L[k]::L.drop (k+1)else addF (min s.1 L[k].1,max s.2 L[k].2) (L.drop (k+1)):=by
 rw[List.drop_eq_getElem_cons h];rfl
theorem withL_canon {e:Int}{L:List Sp}(h:canonF e L=true):withL L=L:=by
 unfold withL;rw[List.filter_eq_self];intro x hx;obtain⟨k,hk,rfl⟩:=List.mem_iff_getElem.1 hx
 simpa using (canonF_nth h hk).2.1
theorem canonF_drop2 {e:Int}{L:List Sp}(h:canonF e L=true)(k:Nat):∃e',canonF e' (L.drop k)=true:=by
 induction L generalizing e k with
 | nil=>exact⟨0,by simp;rfl⟩
 | cons x L ih =>
  cases k with
  | zero=>exact⟨e,h⟩
  | succ k=>rw[canonF_cons]at h;exact ih h.2 k
def addC (N M Q:Nat)(w:World)(y:Sp)(outs:List Sp)(v:Value)(r:Nat)(W:World):Prop :=
 At N 0 (.int .i64 y.1) W/\At N 1 (.int .i64 y.2) W/\At Q 0 v W/\At (Q+1) 0 (.int .i64 (r:Int)) W/\OwnSp W M v outs/\Below N w W/\(∀b,v.ownBlock=some b->b<Q\/Q+2<=b)/\y.1<y.2
def addI (N M Q:Nat)(w:World)(s:Sp)(L:List Sp)(k:Nat)(W:World):Prop :=
 ∃y outs v,addC N M Q w y outs v L.length W/\outs.length<=k/\addF s L=outs++addF y (L.drop k)
def addX (N M Q:Nat)(w:World)(s:Sp)(L:List Sp)(c:Code)(k:Nat)(W:World):Prop :=
 ∃y outs v,addC N M Q w y outs v k W/\outs.length<=k/\addF s L=outs++y::L.drop k/\c= .exit 0
theorem addC_own {N M Q:Nat}{w:World}{y:Sp}{outs:List Sp}{v:Value}{r:Nat}{B:Nat}(hN:N<=w.heap.size)(hB:N<=B){A A':World}{row:Option Nat}(h:addC N M Q w y outs v r A)(hg:A.grownBy A' row)
  (hr:∀r,row=some r->B<=r/\∃o:Obj,A.heap[r]? =some o/\o.isCells=false):addC N M Q w y outs v r A':=by
 have hr2:=fun r e=>(hr r e).2;obtain⟨h1,h2,h3,h4,h5,h6,h7⟩:=h;exact⟨h1.own hg hr2,h2.own hg hr2,h3.own hg hr2,h4.own hg hr2,h5.own hg hr2,below_own h6 hg hr hN hB,h7⟩
theorem addI_own {N M Q:Nat}{s:Sp}{w:World}{L:List Sp}{B:Nat}(hN:N<=w.heap.size)(hB:N<=B):OwnFrom B (addI N M Q w s L):=fun _ _ _ _ ⟨y,outs,v,h,r⟩ hg hr=>⟨y,outs,v,addC_own hN hB h hg hr,r⟩
theorem addX_own {N M Q:Nat}{s:Sp}{w:World}{L:List Sp}{B:Nat}(hN:N<=w.heap.size)(hB:N<=B)(c:Code):OwnFrom B (addX N M Q w s L c):=fun _ _ _ _ ⟨y,outs,v,h,r⟩ hg hr=>⟨y,outs,v,addC_own hN hB h hg hr,r⟩
theorem addC_alloc {N M Q:Nat}{w:World}{y:Sp}{outs:List Sp}{v:Value}{r:Nat}{W:World}(h:addC N M Q w y outs v r W)(hN:N<=W.heap.size)(o:Obj):addC N M Q w y outs v r (W.alloc o):=by
 obtain⟨h1,h2,h3,h4,h5,h6,h7⟩:=h;exact⟨h1.alloc o,h2.alloc o,h3.alloc o,h4.alloc o,h5.alloc o,h6.alloc hN o,h7⟩
theorem addC_app {N M Q:Nat}(hNM:N<M)(hMQ:M<Q){w:World}{y:Sp}{outs outs':List Sp}{v v':Value}{r:Nat}{W W':World}(h:addC N M Q w y outs v r W)(hg:W.grownBy W' v.ownBlock)(ho:OwnSp W' M v' outs')
  (hb:v'.ownBlock=v.ownBlock\/∃k,v'.ownBlock=some k/\W.heap.size<=k)(hN:N<=w.heap.size) :
  addC N M Q w y outs' v' r (W'.setCell ⟨Q,0,none⟩ v'):=by
 obtain⟨h1,h2,h3,h4,h5,h6,h7,h8⟩:=h;have hne:∀k,k<M\/k=Q\/k=Q+1->v.ownBlock≠some k:=fun k hk e=>by have:=(h5.lt k e).1;have:=h7 k e;omega
 have h7':∀b,v'.ownBlock=some b->b<Q\/Q+2<=b:=by
  intro b e
  rcases hb with hb | ⟨k,hb,hk⟩
  ·rw[hb]at e;exact h7 b e
  rw[hb]at e;cases e;have:=h4.lt;omega
 have hne':v'.ownBlock≠some Q:=fun e=>by have:=h7' Q e;omega
 refine⟨(h1.grown hg (hne _ (by omega))).ob _ (by omega),(h2.grown hg (hne _ (by omega))).ob _ (by omega),(h3.grown hg (hne _ (by omega))).set _,(h4.grown hg (hne _ (by omega))).ob _ (by omega),ho.setCell _ _ _ hne',?_,h7',h8⟩;refine(h6.trans (grown_below hg ?_ (fun k e=> ?_))).setCell (p:=⟨Q,0,none⟩) (by show N<=Q;omega) _
 ·have:=h6.size;omega
 have:=(h5.lt k e).1;omega
theorem addC_rest {N M Q:Nat}(hNM:N<M)(hMQ:M<Q){w:World}{y:Sp}{outs:List Sp}{v:Value}{r:Nat}{W:World}(h:addC N M Q w y outs v r W)(u:Nat):addC N M Q w y outs v u (W.setCell ⟨Q+1,0,none⟩ (.int .i64 (u:Int))):=by
 obtain⟨h1,h2,h3,h4,h5,h6,h7,h8⟩:=h;have hne:v.ownBlock≠some (Q+1):=fun e=>by have:=h7 _ e;omega
 exact⟨h1.ob _ (by omega),h2.ob _ (by omega),h3.ob _ (by omega),h4.set _,h5.setCell _ _ _ hne,h6.setCell (p:=⟨Q+1,0,none⟩) (by show N<=Q+1;omega) _,h7,h8⟩
theorem addC_s {N M Q:Nat}(hNM:N<M)(hMQ:M<Q){w:World}{y:Sp}{outs:List Sp}{v:Value}{r:Nat}{W:World}(h:addC N M Q w y outs v r W)(z:Sp)(hz:z.1<z.2):addC N M Q w z outs v r ((W.setCell ⟨N,0,none⟩ (.int .i64 z.1)).setCell ⟨N,1,none⟩ (.int .i64 z.2)):=by
 obtain⟨h1,h2,h3,h4,h5,h6,h7,h8⟩:=h;have hne:v.ownBlock≠some N:=fun e=>by have:=(h5.lt _ e).1;omega
 exact⟨(h1.set _).other _ _ (by simp),(h2.other _ _ (by simp)).set _,(h3.ob _ (by omega)).ob _ (by omega),(h4.ob _ (by omega)).ob _ (by omega),(h5.setCell _ _ _ hne).setCell _ _ _ hne,(h6.setCell (p:=⟨N,0,none⟩) (Nat.le_refl _) _).setCell (p:=⟨N,1,none⟩) (Nat.le_refl _) _,h7,hz⟩
theorem addC_drew {N M Q:Nat}{w:World}{y:Sp}{outs:List Sp}{v:Value}{r:Nat}{W:World}(h:addC N M Q w y outs v r W):addC N M Q w y outs v r W.drew:=by
 obtain⟨h1,h2,h3,h4,h5,h6,h7⟩:=h;exact⟨h1,h2,h3,h4,h5,h6.drew,h7⟩
theorem SpAt.drop {w:World}{n₀:Nat}{a:Option Addr}{L:List Sp}(h:SpAt w n₀ a L){cap:Nat}(hcap:L.length<=cap)(k:Nat):SpAt w n₀ (if cap=k then a else Option.map (fun x=>x.add (k*2)) a) (L.drop k):=by
 refine⟨by rw[List.length_drop];have:=h.small;omega,fun hl=> ?_⟩;rw[List.length_drop]at hl;obtain⟨b,off,rfl,hb,hc⟩:=h.cells (by omega);rw[if_neg (by omega),Option.map_some,Addr.add_lit];refine⟨b,off+k*2,rfl,hb,fun i hi=> ?_⟩;rw[List.length_drop]at hi;obtain⟨c0,c1⟩:=hc (k+i) (by omega);rw[List.getElem_drop,show off+k*2+i*2=off+(k+i)*2 by omega];exact⟨c0,c1⟩
theorem with_len (w:World)(base n₀:Nat)(v:Value)(L:List Sp)(a:Option Addr)(cap:Nat)(ps:List Sp)(hv:OwnSp w base v L)(hL:L.length<=2199023255552)(hbase:base<=w.heap.size)
  (hc:SpAt w n₀ a ps)(hn:n₀<=w.heap.size)(hne:0<ps.length->∀ad,a=some ad->v.ownBlock≠some ad.block)(n:Nat)(hnl:n=ps.length) :
  Calls Tryz.prog 228 #[v,.slice a n cap] w fun e w'=>∃v',e= .returned v'/\OwnSp w' base v' (L++withL ps)/\w.grownBy w' v.ownBlock/\(v'.ownBlock=v.ownBlock\/∃k,v'.ownBlock=some k/\w.heap.size<=k):=by
 subst hnl;exact with_any w base n₀ v L a cap ps hv hL hbase hc hn hne
theorem sp_one {W:World}(a b:Int){n₀:Nat}(h:W.heap.size+1<=n₀):SpAt (W.alloc (.cells #[.int .i64 a,.int .i64 b] 92)) n₀ (some ⟨W.heap.size,0,none⟩) [(a,b)] :=
 ⟨by simp,fun _=>⟨W.heap.size,0,rfl,by omega,fun i hi=>by
  obtain rfl:i=0:=(by simpa using hi)
  simp⟩⟩
theorem below_of {n₀:Nat}{w a b:World}(hn:n₀<=w.heap.size)(h:Below w.heap.size w a)(k:Below w.heap.size w b)(hs:a.heap.size<=b.heap.size):Below n₀ a b :=
 ⟨k.os.trans h.os.symm,k.tape.trans h.tape.symm,k.output.trans h.output.symm,hs,fun i hi=>(k.block i (by omega)).trans (h.block i (by omega)).symm⟩
set_option maxHeartbeats 1000000 in
theorem add_any (w:World) (n₀:Nat) (a:Option Addr) (cap:Nat) (L:List Sp) (s:Sp) (hc:SpAt w n₀ a L) (hn:n₀<=w.heap.size) (hcap:L.length<=cap) :
  Calls Tryz.prog 216 #[.slice a L.length cap,.agg #[.int .i64 s.1,.int .i64 s.2]] w fun e w'=>∃v,e= .returned v/\OwnSp w' w.heap.size v (addL L s)/\Below w.heap.size w w':=by
 obtain⟨s1,s2⟩:=s;have hb:=(((Below.refl w.heap.size w).alloc (Nat.le_refl _) (.cells #[.int .i64 s1,.int .i64 s2] 92)).alloc (by simp) (.cells #[.slice a L.length cap] 224)).alloc (by simp;omega) (.cells #[.slice a L.length cap] 224);have HB:=hid hb;have HS:=hid (hc.below (hb.mono hn));have hsm:=hc.small;clear hb hc;refine(callsIn_wide (n:=4)).1 ?_;refine callsIn_of_wp_marks Tryz.func216 rfl trivial ?_ rfl;simp only[Tryz.ntmps216,List.size_toArray,List.length_cons,List.length_nil,Nat.reduceAdd,Nat.reduceSub,Array.replicate_succ,Array.replicate_zero,List.push_toArray,List.append_toArray,List.nil_append,List.cons_append];refine wpIn_wide.2 ?_;go_wp2_with fail
 go_step3
 go_wp2_with fail;refine(of_any _ _ _ _ _ rfl).mono ?_;rintro e w1⟨rfl,rfl⟩;go_wp2_with fail;refine(takes_any _ n₀ a cap L (s1,s2) HS.o (by have:=HB.size;omega)).mono ?_;rintro e w2⟨rfl,hb2⟩;have hA0:At w.heap.size 0 (.int .i64 s1) w2:=((((At.new (W:=w) (vs:= #[.int .i64 s1,.int .i64 s2]) 92 rfl rfl).alloc _).alloc _).below hb2 (by simp;omega));have hA1:At w.heap.size 1 (.int .i64 s2) w2:=((((At.new (W:=w) (vs:= #[.int .i64 s1,.int .i64 s2]) 92 rfl rfl).alloc _).alloc _).below hb2 (by simp;omega));have hz:At (w.heap.size+1+1) 0 (.slice a L.length cap) w2:=((At.new (W:=(w.alloc (.cells #[.int .i64 s1,.int .i64 s2] 92)).alloc (.cells #[.slice a L.length cap] 224)) (vs:= #[.slice a L.length cap]) 224 (by simp) rfl).below hb2 (by simp));have HS2:=hid (HS.below (hb2.mono (by have:=HB.size;omega)));have HB2:=hid (HB.trans (hb2.mono HB.size));have hsz:=hb2.size
 simp at hsz
 clear hb2 HB HS
 cases htk:takesB L (s1,s2)with
 | false =>
  go_wp2_with fail;rw[Exit.noGoto_ret];refine ret_plain rfl ⟨_,rfl,?_,HB2.o⟩;unfold addL;rw[htk];exact OwnSp.nil _ _
 | true =>
  obtain⟨i0,hi,hz0,hz1,hz2⟩:=info_parts spanInfo;have hLb:¬9223372036854775807<L.length+1:=by omega
  go_wp2_with (first | (at_make;refine wpList_make_own _ rfl _ _ _ rfl w2.heap.size 92 i0 _ 2 Tryz.underlying41 hi hz0 hz1 _ _ _ (L.length+1) rfl rfl (by omega) (by rw[hz2];omega) (by unfold maxLen;omega) (Nat.le_refl _) ?_))
  intro w3 hown3 hgr3;have hlt3:=World.ownsRow.lt hown3 w2.heap.size rfl;have hown3':OwnSp w3 w2.heap.size (.slice (some ⟨w2.heap.size,0,none⟩) 0 (L.length+1)) []:=hown3;have hs3:=hgr3.size;have hA0':=hA0.grown hgr3 (by simp);have hA1':=hA1.grown hgr3 (by simp);have hz':=hz.grown hgr3 (by simp);have HS3:=hid (HS2.grown hgr3 (by omega) (by simp));have HB3:=hid (HB2.trans (grown_below hgr3 (by omega) (fun k e=>by cases e)));have HO3:=hid hown3';clear hown3 hown3' hgr3 HS2 HB2 hA0 hA1 hz;have q1:=((hz'.alloc (.cells #[.slice (some ⟨w2.heap.size,0,none⟩) 0 (L.length+1)] 41)).alloc (.cells #[.int .i64 L.length] 3)).1;have HA0:=hid hA0';have HA1:=hid hA1';clear hA0' hA1' hz';go_wp2_with fail
  go_step3
  go_wp2_with fail;have hNM:w.heap.size<w2.heap.size:=by omega
  have hMQ:w2.heap.size<w3.heap.size:=by omega
  refine(wpIn_wide (n:=4)).1 ?_
  refine wp_each (n₀:=n₀) (by omega) rfl rfl (HS3.below (((Below.refl n₀ w3).alloc (by omega) _).alloc (by simp;omega) _)) (by simp;omega)
   (addI w.heap.size w2.heap.size w3.heap.size w (s1,s2) L) (addX w.heap.size w2.heap.size w3.heap.size w (s1,s2) L) (addI_own (Nat.le_refl _) (by simp;omega)) (addX_own (Nat.le_refl _) (by simp;omega)) ?start ?round ?done ?stop
  case start =>
   refine⟨(s1,s2),[],_,⟨(HA0.alloc _).alloc _,(HA1.alloc _).alloc _,(At.new _ rfl rfl).alloc _,At.new _ (by simp) rfl,(HO3.alloc _).alloc _,(HB3.alloc (by omega) _).alloc (by simp;omega) _,fun b e=>by cases e;exact .inl hlt3.2,(takesB_iff.1 htk).2.2.1⟩,Nat.zero_le _,rfl⟩
  case round =>
   rintro l k hk W hl⟨⟨y1,y2⟩,outs,v,hC,hlen,hadd⟩;have hWs:w3.heap.size+1<W.heap.size:=hC.2.2.2.1.lt;have HV:=hid (hC.2.2.2.2.1.lt);have HV7:=hid hC.2.2.2.2.2.2.1;have hy:y1<y2:=hC.2.2.2.2.2.2.2;have HI:=hid hC;have HG:=hid hadd;have HD:=hid (addF_drop (s:=(y1,y2)) hk);obtain⟨va,vc,rfl,-⟩:=hC.2.2.2.2.1.at (by omega);clear hC hadd q1 HA0 HA1
   gi_wp2
   refine⟨(KeepsOthers.alloc _ _).from _,(Below.refl n₀ W).alloc (by omega) _,fun _ W2=>addC w.heap.size w2.heap.size w3.heap.size w (y1,y2) outs (.slice va outs.length vc) L.length W2/\At W.heap.size 0 (.int .i64 L[k].1) W2/\At W.heap.size 1 (.int .i64 L[k].2) W2,?_,⟨addC_alloc HI.o (by omega) _,At.new _ rfl rfl,At.new _ rfl rfl⟩,?_⟩
   ·intro _ A A' row h hg hr;exact⟨addC_own (B:=_) (Nat.le_refl _) (by first | omega | (simp;omega)) h.1 hg hr,h.2.1.own hg (fun r e=>(hr r e).2),h.2.2.own hg (fun r e=>(hr r e).2)⟩
   rintro W2⟨hC,⟨x0,f0⟩,⟨x1,f1⟩⟩;obtain⟨⟨d0,e0⟩,⟨d1,e1⟩,⟨d2,e2⟩,⟨d3,e3⟩,-⟩:=id hC;have HC:=hid hC;have hbx:=canonF_nth (takesB_iff.1 htk).1 hk;clear HI hC;by_cases c1:L[k].2<y1
   ·have hll:outs.length<=4398046511104:=by omega
    gi_wp2_with (first | (gi_at_builtin;refine wpListIn_append_span _ rfl _ _ rfl w2.heap.size _ _ rfl (HC.2.2.2.2.1.alloc _) hll W2.heap.size L[k] rfl (by simp) (by simp) (by have:=HC.2.2.1.lt;simp;omega) ?_))
    intro v' W3 ho hg hbl;obtain⟨va',vc',hv',-⟩:=ho.at (by rw[List.length_append];simp;omega);have hCa:=addC_alloc HC.o (by have:=HC.1.lt;omega) (.cells #[.int .i64 L[k].1,.int .i64 L[k].2] 92);have hC3:=addC_app hNM hMQ hCa hg ho (by simpa using hbl) (Nat.le_refl _);have hne:(Value.slice va outs.length vc).ownBlock≠some w3.heap.size:=fun e=>by have:=HV7.o _ e;omega
    obtain⟨z0,g0⟩:=hCa.2.2.1.grown hg hne;have hk3:=((KeepsOthers.alloc W2 (.cells #[.int .i64 L[k].1,.int .i64 L[k].2] 92)).trans (keeps_own hCa.2.2.2.2.1 hg));have hb3:Below n₀ W2 W3:=((Below.refl n₀ W2).alloc (by have:=HC.1.lt;omega) _).trans (grown_below hg (by have:=HC.1.lt;simp;omega) (fun b e=>by have:=HV.o _ e;omega));have HK3:=hid hk3;have HB3:=hid hb3;have HC4:=hid hC3;have hlen':(outs++[L[k]]).length<=k+1:=by rw[List.length_append];simp;omega
    have HL':=hid hlen';clear hC3 hk3 hb3 hg hne HC HV d0 d1 d2 d3 e0 e1 e2 e3 x0 x1 f0 f1 ho hCa hbl hlen';generalize (outs++[L[k]]).length=nl at hv';subst hv'
    gi_wp2_with fail
    refine⟨(HK3.trans (KeepsOthers.setCell _ _ _)).from _,HB3.setCell (p:=⟨w3.heap.size,0,none⟩) (by show n₀<=w3.heap.size;omega) _,_,_,_,HC4.o,HL'.out,?_⟩;rw[HG.o,HD.o,if_pos c1,List.append_assoc];rfl
   have HN1:=hid (Int.not_lt.1 c1);by_cases c2:y2<L[k].1
   ·gi_wp2_with fail
    exact⟨(KeepsOthers.setCell _ _ _).from _,_,outs,_,addC_rest hNM hMQ HC.o k,hlen,by rw[HG.o,HD.o,if_neg (Int.not_lt.2 HN1.o),if_pos c2,List.drop_eq_getElem_cons hk],rfl⟩
   have HN2:=hid (Int.not_lt.1 c2);by_cases c3:L[k].1<y1
   ·by_cases c4:y2<L[k].2
    ·have HP:=hid (show(min y1 L[k].1,max y2 L[k].2)=(L[k].1,L[k].2)from Prod.ext (by dsimp only;omega) (by dsimp only;omega))
     gi_wp2_with fail
     exact⟨((KeepsOthers.setCell _ _ _).trans (KeepsOthers.setCell _ _ _)).from _,((Below.refl n₀ W2).setCell (p:=⟨w.heap.size,0,none⟩) (by show n₀<=w.heap.size;omega) _).setCell (p:=⟨w.heap.size,1,none⟩) (by show n₀<=w.heap.size;omega) _,(L[k].1,L[k].2),outs,_,addC_s hNM hMQ HC.o (L[k].1,L[k].2) (by dsimp only;omega),by omega,by rw[HG.o,HD.o,if_neg (Int.not_lt.2 HN1.o),if_neg (Int.not_lt.2 HN2.o)];rw[HP.o]⟩
    have HP:=hid (show(min y1 L[k].1,max y2 L[k].2)=(L[k].1,y2)from Prod.ext (by dsimp only;omega) (by dsimp only;omega))
    gi_wp2_with fail
    exact⟨((KeepsOthers.setCell _ _ _).trans (KeepsOthers.setCell _ _ _)).from _,((Below.refl n₀ W2).setCell (p:=⟨w.heap.size,0,none⟩) (by show n₀<=w.heap.size;omega) _).setCell (p:=⟨w.heap.size,1,none⟩) (by show n₀<=w.heap.size;omega) _,(L[k].1,y2),outs,_,addC_s hNM hMQ HC.o (L[k].1,y2) (by dsimp only;omega),by omega,by rw[HG.o,HD.o,if_neg (Int.not_lt.2 HN1.o),if_neg (Int.not_lt.2 HN2.o)];rw[HP.o]⟩
   by_cases c4:y2<L[k].2
   ·have HP:=hid (show(min y1 L[k].1,max y2 L[k].2)=(y1,L[k].2)from Prod.ext (by dsimp only;omega) (by dsimp only;omega))
    gi_wp2_with fail
    exact⟨((KeepsOthers.setCell _ _ _).trans (KeepsOthers.setCell _ _ _)).from _,((Below.refl n₀ W2).setCell (p:=⟨w.heap.size,0,none⟩) (by show n₀<=w.heap.size;omega) _).setCell (p:=⟨w.heap.size,1,none⟩) (by show n₀<=w.heap.size;omega) _,(y1,L[k].2),outs,_,addC_s hNM hMQ HC.o (y1,L[k].2) (by dsimp only;omega),by omega,by rw[HG.o,HD.o,if_neg (Int.not_lt.2 HN1.o),if_neg (Int.not_lt.2 HN2.o)];rw[HP.o]⟩
   have HP:=hid (show(min y1 L[k].1,max y2 L[k].2)=(y1,y2)from Prod.ext (by dsimp only;omega) (by dsimp only;omega))
   gi_wp2_with fail
   exact⟨((KeepsOthers.setCell _ _ _).trans (KeepsOthers.setCell _ _ _)).from _,((Below.refl n₀ W2).setCell (p:=⟨w.heap.size,0,none⟩) (by show n₀<=w.heap.size;omega) _).setCell (p:=⟨w.heap.size,1,none⟩) (by show n₀<=w.heap.size;omega) _,(y1,y2),outs,_,addC_s hNM hMQ HC.o (y1,y2) (by dsimp only;omega),by omega,by rw[HG.o,HD.o,if_neg (Int.not_lt.2 HN1.o),if_neg (Int.not_lt.2 HN2.o)];rw[HP.o]⟩
  case done =>
   rintro D W hD⟨⟨y1,y2⟩,outs,v,hC,hlen,hadd⟩ hDf;rw[List.drop_length]at hadd;have hD2:w.heap.size<=D:=by simp at hD;omega
   obtain⟨va,vc,rfl,-⟩:=hC.2.2.2.2.1.at (by omega);obtain⟨⟨d0,-⟩,⟨d1,-⟩,⟨d2,-⟩,⟨d3,-⟩,-⟩:=id hC;have hy:y1<y2:=hC.2.2.2.2.2.2.2;have HC:=hid hC;have HG:=hid hadd;have HDF:=hid hDf;have hW2:w3.heap.size+1<W.heap.size:=hC.2.2.2.1.lt;have hr:L.length<=L.length:=by omega
   have hr2:L.length<=cap:=by omega
   clear hC hadd hDf hD q1 HA0 HA1;go_wp2_with fail;refine wp_mono (Q:=noPanic _) ?_ (noPanic_le _);refine wpB (fun w':World=>w'.cell? ⟨w3.heap.size,0,none⟩=some (.slice va outs.length vc)/\w'.cell? ⟨w.heap.size,0,none⟩=some (.int .i64 y1)/\w'.cell? ⟨w.heap.size,1,none⟩=some (.int .i64 y2)/\w'.cell? ⟨w3.heap.size+1,0,none⟩=some (.int .i64 (L.length:Int))) (⟨d2,d0,d1,d3⟩) fun hZ=>?_;refine wpT4 0 1 4 5 ?_;refine wpT 6 ?_;have HC1:=hid (addC_drew HC.o);have HC2:=hid (addC_alloc HC1.o (by show w.heap.size<=W.heap.size;omega) (.cells #[.int .i64 y1,.int .i64 y2] 92));refine wpR 2 fun Kq hKq=> ?_;go_simp;refine hKq.out _ _ (⟨HC2.2.2.1.1,HC2.1.1,HC2.2.1.1,HC2.2.2.2.1.1⟩) ?_;clear hKq Kq hZ;refine fun hZ=>wpA ?_;refine wpR 3 fun Kq hKq=> ?_;go_simp;refine(with_len (W.drew.alloc (.cells #[.int .i64 y1,.int .i64 y2] 92)) w2.heap.size (W.heap.size+1) (.slice va outs.length vc) outs _ _ [(y1,y2)] HC2.2.2.2.2.1 (by omega) (by simp;omega) (sp_one (W:=W.drew) _ _ (Nat.le_refl _)) (by simp) (by intro _ ad e;cases e;exact fun e=>by have:=(HC1.2.2.2.2.1.lt _ e).2;simp at this) 1 rfl).mono ?_;rintro e W5⟨v1,rfl,ho1,hg1,hbl1⟩;rw[withL_one,one,if_pos hy]at ho1;have hne:∀b,b<w2.heap.size\/b=w3.heap.size\/b=w3.heap.size+1->(Value.slice va outs.length vc).ownBlock≠some b:=fun b hb e=>by have:=(HC.2.2.2.2.1.lt _ e).1;have:=HC.2.2.2.2.2.2.1 _ e;omega
   have z0:=HC2.1.grown hg1 (hne _ (by omega));have z1:=HC2.2.1.grown hg1 (hne _ (by omega));have z2:=HC2.2.2.1.grown hg1 (hne _ (by omega));have z3:=HC2.2.2.2.1.grown hg1 (hne _ (by omega));have hD5:=((KeepsOthers.drew W).trans ((KeepsOthers.alloc _ _).trans (keeps_own HC2.2.2.2.2.1 hg1))).same D _ HDF.o rfl;have hb5:Below w.heap.size w W5:=HC2.2.2.2.2.2.1.trans (grown_below hg1 (by simp;omega) (fun b e=>by have:=(HC.2.2.2.2.1.lt _ e).1;omega));have hs5:W.heap.size<=W5.heap.size:=by have:=hg1.size;simp at this;omega
   have HD5:=hid hD5;have HB5:=hid hb5;have HO5:=hid ho1;have hne1:∀b,b<w2.heap.size\/b=w3.heap.size\/b=w3.heap.size+1->v1.ownBlock≠some b:=fun b hb e=>by { have h1:=(ho1.lt _ e).1;rcases hbl1 with h | ⟨j,h,hj⟩;(rw[h]at e;exact hne b hb e);(rw[h]at e;cases e;simp at hj;omega) }
   have HZ:=hid (show _/\_/\_/\_ from⟨z0,z1,z2,z3⟩);have HN1:=hid hne1;clear hD5 hb5 ho1 hg1 hne hbl1 hne1;go_simp;refine hKq.out _ _ (⟨z2.1,z0.1,z1.1,z3.1⟩) ?_;clear hKq Kq hZ;refine fun hZ=>wpA ?_;clear z0 z1 z2 z3;refine wpR 7 fun Kq hKq=> ?_;go_simp;refine(with_len W5 w2.heap.size n₀ v1 (outs++[(y1,y2)]) _ _ (L.drop L.length) HO5.o (by rw[List.length_append];simp;omega) (by omega) (((HS3.drop hcap L.length).below (below_of hn HB3.o HB5.o (by omega)))) (by omega) (by intro hp ad e;obtain⟨b,off,e2,hb,-⟩:=(HS3.drop hcap L.length).cells hp;rw[e2]at e;cases e;exact fun e=>by have:=(HO5.lt _ e).1;simp at this;omega) _ (by simp)).mono ?_;rintro e W6⟨v2,rfl,ho2,hg2,-⟩;have hne:∀b,b<w2.heap.size->v1.ownBlock≠some b:=fun b hb e=>by have:=(HO5.lt _ e).1;omega
   have hD6:=(keeps_own HO5.o hg2).same D _ HD5.o rfl;have hb6:Below w.heap.size w W6:=HB5.trans (grown_below hg2 (by omega) (fun b e=>by have:=(HO5.lt _ e).1;omega));obtain⟨z0,z1,z2,z3⟩:=HZ.o;replace z0:=z0.grown hg2 (HN1.o _ (by omega));replace z1:=z1.grown hg2 (HN1.o _ (by omega));replace z2:=z2.grown hg2 (HN1.o _ (by omega));replace z3:=z3.grown hg2 (HN1.o _ (by omega));have HD6:=hid hD6;have HB6:=hid hb6;have HO6:=hid ho2;clear hD6 hb6 ho2 hne hg2;go_simp;refine hKq.out _ _ (⟨z2.1,z0.1,z1.1,z3.1⟩) ?_;clear hKq Kq hZ;refine fun hZ=>wpA ?_;clear z0 z1 z2 z3;refine wpT 8 ?_;refine wpD ?_ _;simp only[noPanic];go_wp2_with fail
   all_goals
    refine ret_marks rfl HD6.o ⟨_,rfl,?_,below_take HB6.o (Nat.le_refl _) hD2⟩;unfold addL;rw[if_pos htk,HG.o];have:=HO6.o;rw[List.drop_length,show withL ([]:List Sp)=[]from rfl,List.append_nil]at this;exact(this.own (grownBy_putObj' W6 D _) (fun r e=>by cases e;exact⟨_,HD6.o,rfl⟩)).mono (by omega)
  case stop =>
   rintro D c k W hD hk⟨⟨y1,y2⟩,outs,v,hC,hlen,hadd,rfl⟩ hDf;have hD2:w.heap.size<=D:=by simp at hD;omega
   obtain⟨va,vc,rfl,-⟩:=hC.2.2.2.2.1.at (by omega);obtain⟨⟨d0,-⟩,⟨d1,-⟩,⟨d2,-⟩,⟨d3,-⟩,-⟩:=id hC;have hy:y1<y2:=hC.2.2.2.2.2.2.2;have HC:=hid hC;have HG:=hid hadd;have HDF:=hid hDf;have hW2:w3.heap.size+1<W.heap.size:=hC.2.2.2.1.lt;have hr:k<=L.length:=by omega
   have hr2:k<=cap:=by omega
   clear hC hadd hDf hD q1 HA0 HA1;refine wpIn_wide.2 ?_;go_wp2_with fail;refine wp_mono (Q:=noPanic _) ?_ (noPanic_le _);refine wpB (fun w':World=>w'.cell? ⟨w3.heap.size,0,none⟩=some (.slice va outs.length vc)/\w'.cell? ⟨w.heap.size,0,none⟩=some (.int .i64 y1)/\w'.cell? ⟨w.heap.size,1,none⟩=some (.int .i64 y2)/\w'.cell? ⟨w3.heap.size+1,0,none⟩=some (.int .i64 (k:Int))) (⟨d2,d0,d1,d3⟩) fun hZ=>?_;refine wpT4 0 1 4 5 ?_;refine wpT 6 ?_;have HC1:=hid (addC_drew HC.o);have HC2:=hid (addC_alloc HC1.o (by show w.heap.size<=W.heap.size;omega) (.cells #[.int .i64 y1,.int .i64 y2] 92));refine wpR 2 fun Kq hKq=> ?_;go_simp;refine hKq.out _ _ (⟨HC2.2.2.1.1,HC2.1.1,HC2.2.1.1,HC2.2.2.2.1.1⟩) ?_;clear hKq Kq hZ;refine fun hZ=>wpA ?_;refine wpR 3 fun Kq hKq=> ?_;go_simp;refine(with_len (W.drew.alloc (.cells #[.int .i64 y1,.int .i64 y2] 92)) w2.heap.size (W.heap.size+1) (.slice va outs.length vc) outs _ _ [(y1,y2)] HC2.2.2.2.2.1 (by omega) (by simp;omega) (sp_one (W:=W.drew) _ _ (Nat.le_refl _)) (by simp) (by intro _ ad e;cases e;exact fun e=>by have:=(HC1.2.2.2.2.1.lt _ e).2;simp at this) 1 rfl).mono ?_;rintro e W5⟨v1,rfl,ho1,hg1,hbl1⟩;rw[withL_one,one,if_pos hy]at ho1;have hne:∀b,b<w2.heap.size\/b=w3.heap.size\/b=w3.heap.size+1->(Value.slice va outs.length vc).ownBlock≠some b:=fun b hb e=>by have:=(HC.2.2.2.2.1.lt _ e).1;have:=HC.2.2.2.2.2.2.1 _ e;omega
   have z0:=HC2.1.grown hg1 (hne _ (by omega));have z1:=HC2.2.1.grown hg1 (hne _ (by omega));have z2:=HC2.2.2.1.grown hg1 (hne _ (by omega));have z3:=HC2.2.2.2.1.grown hg1 (hne _ (by omega));have hD5:=((KeepsOthers.drew W).trans ((KeepsOthers.alloc _ _).trans (keeps_own HC2.2.2.2.2.1 hg1))).same D _ HDF.o rfl;have hb5:Below w.heap.size w W5:=HC2.2.2.2.2.2.1.trans (grown_below hg1 (by simp;omega) (fun b e=>by have:=(HC.2.2.2.2.1.lt _ e).1;omega));have hs5:W.heap.size<=W5.heap.size:=by have:=hg1.size;simp at this;omega
   have HD5:=hid hD5;have HB5:=hid hb5;have HO5:=hid ho1;have hne1:∀b,b<w2.heap.size\/b=w3.heap.size\/b=w3.heap.size+1->v1.ownBlock≠some b:=fun b hb e=>by { have h1:=(ho1.lt _ e).1;rcases hbl1 with h | ⟨j,h,hj⟩;(rw[h]at e;exact hne b hb e);(rw[h]at e;cases e;simp at hj;omega) }
   have HZ:=hid (show _/\_/\_/\_ from⟨z0,z1,z2,z3⟩);have HN1:=hid hne1;clear hD5 hb5 ho1 hg1 hne hbl1 hne1;go_simp;refine hKq.out _ _ (⟨z2.1,z0.1,z1.1,z3.1⟩) ?_;clear hKq Kq hZ;refine fun hZ=>wpA ?_;clear z0 z1 z2 z3;refine wpR 7 fun Kq hKq=> ?_;go_simp;refine(with_len W5 w2.heap.size n₀ v1 (outs++[(y1,y2)]) _ _ (L.drop k) HO5.o (by rw[List.length_append];simp;omega) (by omega) (((HS3.drop hcap k).below (below_of hn HB3.o HB5.o (by omega)))) (by omega) (by intro hp ad e;obtain⟨b,off,e2,hb,-⟩:=(HS3.drop hcap k).cells hp;rw[e2]at e;cases e;exact fun e=>by have:=(HO5.lt _ e).1;simp at this;omega) _ (by simp)).mono ?_;rintro e W6⟨v2,rfl,ho2,hg2,-⟩;have hne:∀b,b<w2.heap.size->v1.ownBlock≠some b:=fun b hb e=>by have:=(HO5.lt _ e).1;omega
   have hD6:=(keeps_own HO5.o hg2).same D _ HD5.o rfl;have hb6:Below w.heap.size w W6:=HB5.trans (grown_below hg2 (by omega) (fun b e=>by have:=(HO5.lt _ e).1;omega));obtain⟨z0,z1,z2,z3⟩:=HZ.o;replace z0:=z0.grown hg2 (HN1.o _ (by omega));replace z1:=z1.grown hg2 (HN1.o _ (by omega));replace z2:=z2.grown hg2 (HN1.o _ (by omega));replace z3:=z3.grown hg2 (HN1.o _ (by omega));have HD6:=hid hD6;have HB6:=hid hb6;have HO6:=hid ho2;clear hD6 hb6 ho2 hne hg2;go_simp;refine hKq.out _ _ (⟨z2.1,z0.1,z1.1,z3.1⟩) ?_;clear hKq Kq hZ;refine fun hZ=>wpA ?_;clear z0 z1 z2 z3;refine wpT 8 ?_;refine wpD ?_ _;simp only[noPanic];go_wp2_with fail
   all_goals
    refine ret_marks rfl HD6.o ⟨_,rfl,?_,below_take HB6.o (Nat.le_refl _) hD2⟩;unfold addL;rw[if_pos htk,HG.o];have hcd:=(canonF_drop2 (takesB_iff.1 htk).1 k).choose_spec;have:=HO6.o;rw[withL_canon hcd,List.append_assoc]at this;exact(this.own (grownBy_putObj' W6 D _) (fun r e=>by cases e;exact⟨_,HD6.o,rfl⟩)).mono (by omega)
end
section
open Go.RowKit Go.Shelf
def bxCells (R:Nat)(b:Bx)(a:Option Addr)(cap:Nat):Array Value:= #[.slice (some ⟨R,0,none⟩) b.ring.length b.ring.length,.int .i64 b.rd,.int .i64 b.nx,.slice a b.bl.length cap,.int .i64 b.nw]
def Apart (B R lb:Nat)(bl:List Sp)(a:Option Addr):Prop:=(∀ad,a=some ad->ad=⟨ad.block,ad.off,none⟩)/\(0<bl.length->∀ad,a=some ad->ad.block≠B/\ad.block≠R/\lb<=ad.block)
structure SpTAt (w:World)(a:Option Addr)(L:List Sp):Prop extends SpAt w w.heap.size a L where
 ty:0<L.length->∀ad,a=some ad->TyB w ad.block 92
def BoxAt (B R lb:Nat)(b:Bx)(w:World):Prop :=
 B≠R/\RingAt R b.ring w/\∃a cap,w.heap[B]? =some (.cells (bxCells R b a cap) 156 (0,0))/\SpTAt w a b.bl/\b.bl.length<=cap/\Apart B R lb b.bl a
structure Chg2 (B R:Nat)(w w':World):Prop where
 os:w'.os=w.os
 tape:w'.tape=w.tape
 output:w'.output=w.output
 size:w.heap.size<=w'.heap.size
 block:∀k,k<w.heap.size->k≠B->k≠R->w'.heap[k]? =w.heap[k]?
theorem Chg2.refl (B R:Nat)(w:World):Chg2 B R w w:=⟨rfl,rfl,rfl,Nat.le_refl _,fun _ _ _ _=>rfl⟩
theorem Chg2.trans {B R:Nat}{a b c:World}(h:Chg2 B R a b)(k:Chg2 B R b c):Chg2 B R a c :=
 ⟨k.os.trans h.os,k.tape.trans h.tape,k.output.trans h.output,Nat.le_trans h.size k.size,fun i hi hB hR=>(k.block i (Nat.lt_of_lt_of_le hi h.size) hB hR).trans (h.block i hi hB hR)⟩
theorem Chg2.of1 {B R:Nat}{a b:World}(h:Chg B a b):Chg2 B R a b:=⟨h.os,h.tape,h.output,h.size,fun i hi hB _=>h.block i hi hB⟩
theorem Chg2.of2 {B R:Nat}{a b:World}(h:Chg R a b):Chg2 B R a b:=⟨h.os,h.tape,h.output,h.size,fun i hi _ hR=>h.block i hi hR⟩
theorem Chg2.of_below {B R:Nat}{w w':World}(h:Below w.heap.size w w'):Chg2 B R w w':=⟨h.os,h.tape,h.output,h.size,fun k hk _ _=>h.block k hk⟩
theorem Chg2.below {B R N:Nat}{w w':World}(h:Chg2 B R w w')(hB:N<=B)(hR:N<=R)(hs:N<=w.heap.size):Below N w w':=⟨h.os,h.tape,h.output,h.size,fun k hk=>h.block k (by omega) (by omega) (by omega)⟩
theorem BoxAt.lt {B R lb:Nat}{b:Bx}{w:World}(h:BoxAt B R lb b w):B<w.heap.size/\R<w.heap.size:=by
 obtain⟨_,hr,a,cap,hb,_⟩:=h;exact⟨(Array.getElem?_eq_some_iff.1 hb).1,(Array.getElem?_eq_some_iff.1 hr).1⟩
theorem BoxAt.ats {B R lb:Nat}{b:Bx}{w:World}(h:BoxAt B R lb b w):∃a cap,At B 0 (.slice (some ⟨R,0,none⟩) b.ring.length b.ring.length) w/\At B 1 (.int .i64 b.rd) w/\At B 2 (.int .i64 b.nx) w/\At B 3 (.slice a b.bl.length cap) w/\At B 4 (.int .i64 b.nw) w/\SpAt w w.heap.size a b.bl/\b.bl.length<=cap/\Apart B R lb b.bl a:=by
 obtain⟨_,_,a,cap,hb,h1,h2,h3⟩:=h;have c:∀i v,(bxCells R b a cap)[i]? =some v->At B i v w:=fun i v hv=>⟨by rw[cell_of_row _ _ _ _ _ _ hb];exact hv,frozen_of_row _ _ _ _ _ hb⟩;exact⟨a,cap,c 0 _ rfl,c 1 _ rfl,c 2 _ rfl,c 3 _ rfl,c 4 _ rfl,h1.toSpAt,h2,h3⟩
theorem BoxAt.typed {B R lb n cap:Nat}{a:Option Addr}{b:Bx}{w:World}(h:BoxAt B R lb b w)(hc:w.cell? ⟨B,3,none⟩=some (.slice a n cap))(hp:0<b.bl.length)(ad:Addr)(ha:a=some ad):TyB w ad.block 92:=by
 obtain⟨_,_,a',cap',hbk,h1,_⟩:=h;have c3:w.cell? ⟨B,3,none⟩=some (.slice a' b.bl.length cap'):=by rw[cell_of_row _ _ _ _ _ _ hbk];rfl
 have e:=hc.symm.trans c3
 injection e with e
 injection e with e1 e2 e3
 exact h1.ty hp ad (e1.symm.trans ha)
theorem BoxAt.below {B R lb:Nat}{b:Bx}{w w':World}(h:BoxAt B R lb b w)(hb:Below w.heap.size w w'):BoxAt B R lb b w':=by
 have hl:=h.lt;obtain⟨h0,hr,a,cap,hbk,h1,h2,h3⟩:=h;exact⟨h0,(hb.block R hl.2).trans hr,a,cap,(hb.block B hl.1).trans hbk,⟨(h1.toSpAt.below hb).mono hb.size,fun hp ad e=>(h1.ty hp ad e).of (hb.block _ (h1.ty hp ad e).lt)⟩,h2,h3⟩
theorem BoxAt.alloc {B R lb:Nat}{b:Bx}{w:World}(h:BoxAt B R lb b w)(o:Obj):BoxAt B R lb b (w.alloc o):=h.below ((Below.refl _ w).alloc (Nat.le_refl _) o)
theorem BoxAt.drew {B R lb:Nat}{b:Bx}{w:World}(h:BoxAt B R lb b w):BoxAt B R lb b w.drew:=h.below (Below.refl _ w).drew
theorem BoxAt.other {B R C lb:Nat}{b:Bx}{w w':World}(h:BoxAt B R lb b w)(hc:Chg C w w')(hB:C≠B)(hR:C≠R)(hlb:C<lb):BoxAt B R lb b w':=by
 have hl:=h.lt;obtain⟨h0,hr,a,cap,hbk,h1,h2,h3⟩:=h;refine⟨h0,(hc.block R hl.2 (Ne.symm hR)).trans hr,a,cap,(hc.block B hl.1 (Ne.symm hB)).trans hbk,⟨⟨h1.small,fun hp=> ?_⟩,fun hp ad e=>(h1.ty hp ad e).of (hc.block _ (h1.ty hp ad e).lt (by have:=(h3.2 hp ad e).2.2;omega))⟩,h2,h3⟩;obtain⟨bb,off,ha,hb,hcs⟩:=h1.cells hp;have hne:bb≠C:=by have:=(h3.2 hp _ ha).2.2;dsimp only at this;omega
 have hk:=hc.block bb hb hne;exact⟨bb,off,ha,Nat.lt_of_lt_of_le hb hc.size,fun i hi=>⟨(World.cell?_of_block (a:=⟨bb,_,none⟩) hk).trans (hcs i hi).1,(World.cell?_of_block (a:=⟨bb,_,none⟩) hk).trans (hcs i hi).2⟩⟩
theorem BoxAt.set {B R lb:Nat}{b b':Bx}{w:World}(h:BoxAt B R lb b w)(i:Nat)(v:Value)(hr:b'.ring=b.ring)(hbl:b'.bl=b.bl)(he:∀a cap,(bxCells R b a cap).setIfInBounds i v=bxCells R b' a cap):BoxAt B R lb b' (w.setCell ⟨B,i,none⟩ v):=by
 have hl:=h.lt;obtain⟨h0,hrg,a,cap,hbk,h1,h2,h3⟩:=h;refine⟨h0,?_,a,cap,?_,?_,by rw[hbl];exact h2,by rw[hbl];exact h3⟩
 ·unfold RingAt;rw[hr,heap_setCell_other w ⟨B,i,none⟩ R v (Ne.symm h0)];exact hrg
 ·rw[heap_setCell_same _ _ _ _ _ _ hbk,he]
 rw[hbl];refine⟨⟨h1.small,fun hp=> ?_⟩,fun hp ad e=>(h1.ty hp ad e).of (heap_setCell_other _ _ _ _ (h3.2 hp ad e).1)⟩;obtain⟨bb,off,ha,hb,hcs⟩:=h1.cells hp;have hne:=(h3.2 hp _ ha).1;exact⟨bb,off,ha,by simp[World.setCell];exact hb,fun i' hi=>⟨by rw[World.cell?_setCell_other _ _ _ _ (fun e=>hne (congrArg Addr.block e).symm)];exact(hcs i' hi).1,by rw[World.cell?_setCell_other _ _ _ _ (fun e=>hne (congrArg Addr.block e).symm)];exact(hcs i' hi).2⟩⟩
theorem BoxAt.setBl {B R lb:Nat}{b:Bx}{w:World}(h:BoxAt B R lb b w)(a':Option Addr)(cap':Nat)(L:List Sp)(hs:SpAt w w.heap.size a' L)(hcap:L.length<=cap')(hap:Apart B R lb L a')(hty:0<L.length->∀ad,a'=some ad->TyB w ad.block 92):BoxAt B R lb { b with bl:=L } (w.setCell ⟨B,3,none⟩ (.slice a' L.length cap')):=by
 obtain⟨h0,hrg,a,cap,hbk,h1,h2,h3⟩:=h;refine⟨h0,?_,a',cap',?_,?_,hcap,hap⟩
 ·unfold RingAt;rw[heap_setCell_other w ⟨B,3,none⟩ R _ (Ne.symm h0)];exact hrg
 ·rw[heap_setCell_same _ _ _ _ _ _ hbk];rfl
 refine⟨⟨hs.small,fun hp=> ?_⟩,fun hp ad e=>(hty hp ad e).of (heap_setCell_other _ _ _ _ (hap.2 hp ad e).1)⟩;obtain⟨bb,off,ha,hb,hcs⟩:=hs.cells hp;have hne:=(hap.2 hp _ ha).1;exact⟨bb,off,ha,by simp[World.setCell];exact hb,fun i' hi=>⟨by rw[World.cell?_setCell_other _ _ _ _ (fun e=>hne (congrArg Addr.block e).symm)];exact(hcs i' hi).1,by rw[World.cell?_setCell_other _ _ _ _ (fun e=>hne (congrArg Addr.block e).symm)];exact(hcs i' hi).2⟩⟩
theorem BoxAt.ring {B R lb:Nat}{b:Bx}{rg:List UInt8}{w w':World}(h:BoxAt B R lb b w)(hlen:rg.length=b.ring.length)(hr:RingAt R rg w')(hc:Chg R w w'):BoxAt B R lb { b with ring:=rg } w':=by
 have hl:=h.lt;obtain⟨h0,hrg,a,cap,hbk,h1,h2,h3⟩:=h;refine⟨h0,hr,a,cap,?_,⟨⟨h1.small,fun hp=> ?_⟩,fun hp ad e=>(h1.ty hp ad e).of (hc.block _ (h1.ty hp ad e).lt (h3.2 hp ad e).2.1)⟩,h2,h3⟩
 ·rw[hc.block B hl.1 h0,hbk];unfold bxCells;dsimp only;rw[hlen]
 obtain⟨bb,off,ha,hb,hcs⟩:=h1.cells hp;have hk:=hc.block bb hb (h3.2 hp _ ha).2.1;exact⟨bb,off,ha,Nat.lt_of_lt_of_le hb hc.size,fun i hi=>⟨(World.cell?_of_block (a:=⟨bb,_,none⟩) hk).trans (hcs i hi).1,(World.cell?_of_block (a:=⟨bb,_,none⟩) hk).trans (hcs i hi).2⟩⟩
theorem end_any (B R lb:Nat)(b:Bx)(w:World)(h:BoxAt B R lb b w)(ok:b.Ok) :
  Calls Tryz.prog 205 #[.pointer (some ⟨B,0,none⟩)] w fun e w'=>e= .returned (.int .i64 (b.rd+b.ring.length))/\w'=w.drew:=by
 obtain⟨a,cap,⟨c0,-⟩,⟨c1,-⟩,-⟩:=h.ats;have h1:=ok.rd0;have h2:=ok.small;have h3:=ok.most
 go_enter Tryz.func205,Tryz.ntmps205
 go_wp2
 go_region
 all_goals
  go_wp2
  go_ret;exact⟨rfl,rfl⟩
theorem next_any (B R lb:Nat)(b:Bx)(w:World)(h:BoxAt B R lb b w) :
  Calls Tryz.prog 110 #[.pointer (some ⟨B,0,none⟩)] w fun e w'=>e= .returned (.int .i64 b.nx)/\w=w':=by
 obtain⟨a,cap,-,-,⟨c2,-⟩,-⟩:=h.ats
 go_enter Tryz.func110,Tryz.ntmps110
 go_wp2
 go_ret;exact⟨rfl,rfl⟩
end
section
set_option maxRecDepth 100000
open Go.RowKit Go.Shelf
theorem countF_len {e:Int}{l:List Sp}(h:canonF e l=true):(l.length:Int)<=countF l:=by
 induction l generalizing e with
 | nil=>exact Int.le_refl _
 | cons x l ih =>
  rw[canonF_cons]at h;have:=ih h.2;show((x::l).length:Int)<=x.2-x.1+countF l;rw[List.length_cons];omega
theorem gaps_in {bl:List Sp}{lo hi:Int}(ht:takesB bl (lo,hi)=true){k:Nat}(hk:k<(gapsL bl (lo,hi)).length) :
  lo<=(gapsL bl (lo,hi))[k].1/\(gapsL bl (lo,hi))[k].1<(gapsL bl (lo,hi))[k].2/\(gapsL bl (lo,hi))[k].2<=hi:=by
 obtain⟨hc,hm⟩:=gapsL_spec ht;have h1:=canonF_nth hc hk;have m1:=(hm (gapsL bl (lo,hi))[k].1).1 ⟨_,List.getElem_mem hk,by omega,by omega⟩;have m2:=(hm ((gapsL bl (lo,hi))[k].2-1)).1 ⟨_,List.getElem_mem hk,by omega,by omega⟩;dsimp only at m1 m2;omega
theorem fills_take {rg:List UInt8}{off:Int}{s:List UInt8}{gs:List Sp}{k:Nat}(h:k<gs.length):fillsB rg off s (gs.take (k+1))=fillB (fillsB rg off s (gs.take k)) gs[k].1.toNat (cutB s off gs[k]):=by
 unfold fillsB;rw[List.take_succ_eq_append_getElem h,List.foldl_append];rfl
theorem fills_len {rg:List UInt8}{off:Int}{s:List UInt8}{gs:List Sp}(h1:1<=rg.length)(h:∀g∈gs,(g.2-g.1).toNat<=rg.length):(fillsB rg off s gs).length=rg.length:=by
 induction gs generalizing rg with
 | nil=>rfl
 | cons g gs ih =>
  have e:(fillB rg g.1.toNat (cutB s off g)).length=rg.length:=length_fillB _ _ _ h1 (Nat.le_trans (length_cutB _ _ _) (h g (by simp)));show(fillsB (fillB rg g.1.toNat (cutB s off g)) off s gs).length=_;rw[ih (by omega) (fun x hx=>by rw[e];exact h x (by simp[hx])),e]
theorem At.chg {B R i:Nat}{v:Value}{w w':World}(h:At B i v w)(hc:Chg R w w')(hne:B≠R):At B i v w':=by
 have hb:=hc.block B h.lt hne;exact⟨(World.cell?_of_block (a:=⟨B,i,none⟩) hb).trans h.1,(World.frozen?_of_block (a:=⟨B,i,none⟩) hb).trans h.2⟩
theorem SpAt.chg {w w':World}{n₀ R:Nat}{a:Option Addr}{L:List Sp}(h:SpAt w n₀ a L)(hc:Chg R w w')(hn:n₀<=w.heap.size)(hne:0<L.length->∀ad,a=some ad->ad.block≠R):SpAt w' n₀ a L :=
 ⟨h.small,fun hl=>by
  obtain⟨b,off,ha,hbl,hcs⟩:=h.cells hl;have hb:=hc.block b (by omega) (hne hl _ ha);exact⟨b,off,ha,hbl,fun i hi=>⟨(World.cell?_of_block (a:=⟨b,_,none⟩) hb).trans (hcs i hi).1,(World.cell?_of_block (a:=⟨b,_,none⟩) hb).trans (hcs i hi).2⟩⟩⟩
theorem SpAt.tail {w:World}{n₀ b off:Nat}{x:Sp}{L:List Sp}(h:SpAt w n₀ (some ⟨b,off,none⟩) (x::L)):SpAt w n₀ (some ⟨b,off+2,none⟩) L:=by
 refine⟨by have:=h.small;rw[List.length_cons]at this;omega,fun _=> ?_⟩;obtain⟨b',off',e,hb,hc⟩:=h.cells (by simp)
 cases e
 refine⟨b,off+2,rfl,hb,fun i hi=> ?_⟩;obtain⟨c0,c1⟩:=hc (i+1) (by simpa using hi);rw[show off+2+i*2=off+(i+1)*2 by omega];exact⟨c0,c1⟩
theorem ext_cut (s:ByteArray)(off:Int)(g:Sp)(i j:Nat)(hi:g.1-off=i)(hj:g.2-off=j):(s.extract i j).data.toList=cutB s.data.toList off g:=by
 unfold cutB;rw[ByteArray.data_extract,Array.toList_extract,List.extract_eq_take_drop,hi,show g.2-g.1=(j:Int)-i by omega]
 congr 1
 omega
set_option maxHeartbeats 4000000 in
theorem put_any (B R lb:Nat) (b:Bx) (off:Int) (s:ByteArray) (w:World) (h:BoxAt B R lb b w) (ok:b.Ok) (hlb:lb<=w.heap.size) (hs:s.size<=4611686018427387904) :
  Calls Tryz.prog 204 #[.pointer (some ⟨B,0,none⟩),.int .i64 off,.string s] w fun e w'=>e= .returned (.tuple #[.int .i64 (b.putN off s.size),.int .i64 (putE off)])/\BoxAt B R lb (b.put off s.data.toList) w'/\Chg2 B R w w':=by
 by_cases hoff:off<0\/1099511627776<off
 ·have HP:=hid (show b.putN off s.size=0/\putE off=130/\b.put off s.data.toList=b from⟨by unfold Bx.putN;rw[if_pos hoff],by unfold putE;rw[if_pos hoff],by unfold Bx.put;rw[if_pos hoff]⟩);rw[HP.1,HP.2.1,HP.2.2]
  rcases hoff with hoff | hoff
  all_goals
   (try have hoff0:0<=off:=by omega)
   go_enter Tryz.func204,Tryz.ntmps204
   go_wp2_with fail;exact bodyPost_ret (results_tmp2 rfl _ _ _) rfl ⟨rfl,h,Chg2.refl _ _ _⟩
 have HP:=hid (show b.putN off s.size=(if b.hi off s.size<=b.lo off then 0 else countL (gapsL b.bl (b.lo off,b.hi off s.size)))/\putE off=0/\b.put off s.data.toList=(if b.hi off s.data.toList.length<=b.lo off then b else b.putP off s.data.toList (b.lo off,b.hi off s.data.toList.length))from⟨by unfold Bx.putN;rw[if_neg hoff],by unfold putE;rw[if_neg hoff],by unfold Bx.put;rw[if_neg hoff]⟩);rw[HP.1,HP.2.1,HP.2.2,show s.data.toList.length=s.size from(Lib.size_eq s).symm];clear HP;obtain⟨hoff1,hoff2⟩:0<=off/\off<=1099511627776:=by omega
 clear hoff;obtain⟨lo,hlo⟩:∃lo,lo=b.lo off:=⟨_,rfl⟩;obtain⟨hi,hhi⟩:∃hi,hi=b.hi off s.size:=⟨_,rfl⟩;rw[<-hlo,<-hhi];unfold Bx.lo at hlo;unfold Bx.hi at hhi;have HLO:=hid hlo;have HHI:=hid hhi;clear hlo hhi;obtain⟨a,cap,⟨c0,-⟩,⟨c1,-⟩,⟨c2,-⟩,⟨c3,-⟩,-⟩:=h.ats;have HBX:=hid h;have HOK:=hid ok;have k1:=ok.rd0;have k2:=ok.small;have k3:=ok.most;have k4:=ok.one;have k5:=ok.rdnx;have k6:=ok.nxend;have hBl:=h.lt;have hos1:off+(s.size:Int)<=9223372036854775807:=by omega
 have hos2: -9223372036854775808<=off+(s.size:Int):=by omega
 clear h ok
 go_enter Tryz.func204,Tryz.ntmps204
 go_wp2_with fail;refine wp_mono (Q:=onNormal (fun a' w'=>a'={ tmps:= #[.pointer (some ⟨B,0,none⟩),.int .i64 off,.string s,undef,undef,undef,.int .i64 0,.int .i64 0,.pointer (some ⟨w.heap.size,0,none⟩),undef,undef,undef,.pointer (some ⟨B,0,none⟩),.bool false,.int .i64 off,.bool (decide (off<0)),.bool (decide (off<0)),.int .i64 off,.bool (decide (1099511627776<off)),.bool (decide (off<0)||decide (1099511627776<off)),.int .i64 off,.pointer (some ⟨B,0,none⟩),.pointer (some ⟨B,0,none⟩),.pointer (some ⟨B,2,none⟩),.int .i64 b.nx,.int .i64 lo,.int .i64 off,.string s,.int .i64 (s.size:Int),.int .i64 (off+(s.size:Int)),.pointer (some ⟨B,0,none⟩),.int .i64 (b.rd+(b.ring.length:Int)),.int .i64 hi,.agg #[.int .i64 lo,.int .i64 hi],undef,undef,undef,undef,undef,undef,undef,undef,undef,undef,undef,undef,undef,undef,undef,undef,undef,undef,undef,undef,undef,undef,undef,undef,undef,undef,undef,undef,undef,undef,undef,undef,undef,undef,undef,undef,undef,undef,undef,undef,undef,undef,undef,undef,undef,undef,undef,undef,undef,undef,undef,undef,undef,undef,undef,undef,undef,undef,undef,undef,undef,undef,undef,undef,undef,undef,undef,undef,undef,undef,undef,undef,undef,undef,undef,undef,undef,undef,undef,undef,undef,undef,undef,undef,undef,undef],defers:=[] }/\BoxAt B R lb b w'/\At w.heap.size 0 (.int .i64 lo) w'/\At w.heap.size 1 (.int .i64 hi) w'/\Chg2 B R w w'/\w.heap.size+1<=w'.heap.size)) ?_ (onNormal_le ?_)
 ·refine wpB (fun w':World=>w'.cell? ⟨B,2,none⟩=some (.int .i64 b.nx)) (c2) fun hZ=>?_;refine wpT4 0 1 2 3 ?_;refine wpT 4 ?_;refine wpT 5 (v:=.int .i64 lo) ?_ (hy:=by intro w hSw;go_simp;(have:=HLO.o;split <;> (congr 3;omega)));refine wpT2 6 7 ?_;refine wpT 8 ?_;refine wpT 9 (v:=.int .i64 (off+(s.size:Int))) ?_ (hy:=by intro w hSw;go_simp;(first | exact IntWalk.i64_in _ ⟨hos2,hos1⟩ | rw[IntWalk.i64_in _ ⟨hos2,hos1⟩]));refine wpT 10 ?_;refine wpAnyH_ready (rs:=[11,14]) (by kernel_rfl) (by simp) ?_;refine AllReadyH.cons (by simp only[List.getElem?_toArray,List.getElem?_cons_succ,List.getElem?_cons_zero];rfl) (fun Kq hKq=> ?_) (AllReadyH.cons (by simp only[List.getElem?_toArray,List.getElem?_cons_succ,List.getElem?_cons_zero];rfl) (fun Kq hKq=> ?_) AllReadyH.nil)
  focus
   go_simp;refine(end_any B R lb b _ (HBX.drew) HOK.o).mono ?_;rintro e w1⟨rfl,rfl⟩;go_simp;refine hKq.out _ _ c2 ?_;clear hKq Kq hZ;refine fun hZ=>wpA ?_;refine wpT 12 (v:=.int .i64 hi) ?_ (hy:=by intro w hSw;go_simp;(have:=HHI.o;split <;> (congr 3;omega)));refine wpT 13 ?_;refine wpR 14 fun Kq hKq=> ?_;go_simp;refine hKq.out _ _ (((Below.refl _ w).alloc (Nat.le_refl _) _ |>.cell (p:=⟨B,2,none⟩) hBl.1).trans c2) ?_;clear hKq Kq hZ;refine fun hZ=>wpA ?_
  rotate_left 1
  focus
   go_simp;refine hKq.out _ _ (((Below.refl _ w).alloc (Nat.le_refl _) _ |>.cell (p:=⟨B,2,none⟩) hBl.1).trans c2) ?_;clear hKq Kq hZ;refine fun hZ=>wpA ?_;refine wpR 11 fun Kq hKq=> ?_;go_simp;refine(end_any B R lb b _ ((HBX.alloc _).drew) HOK.o).mono ?_;rintro e w1⟨rfl,rfl⟩;go_simp;refine hKq.out _ _ (((Below.refl _ w).alloc (Nat.le_refl _) _ |>.cell (p:=⟨B,2,none⟩) hBl.1).trans c2) ?_;clear hKq Kq hZ;refine fun hZ=>wpA ?_;refine wpT 12 (v:=.int .i64 hi) ?_ (hy:=by intro w hSw;go_simp;(have:=HHI.o;split <;> (congr 3;omega)));refine wpT 13 ?_
  all_goals
   refine wpR 15 fun Kq hKq=> ?_;go_simp;refine hKq.out _ _ (((Below.refl _ w).alloc (Nat.le_refl _) _ |>.cell (p:=⟨B,2,none⟩) hBl.1).trans c2) ?_;clear hKq Kq hZ;refine fun hZ=>wpA ?_;refine wpD ?_ _;clear hZ;refine⟨rfl,(HBX.alloc _).drew.drew,At.new (W:=w) _ rfl rfl,At.new (W:=w) _ rfl rfl,Chg2.of_below (((Below.refl _ w).alloc (Nat.le_refl _) _).drew.drew),by simp⟩
 rintro a' W1⟨rfl,hx1,hp0,hp1,hch,hsz⟩;clear c0 c1 c2 c3 a cap;obtain⟨a,cap,-,-,-,c3,-,hsp1,hcap1,hap1⟩:=hx1.ats;have HX1:=hid hx1;have HCH:=hid hch;have HP0:=hid hp0;have HP1:=hid hp1;have HSP:=hid hsp1;have HAP:=hid hap1;clear hx1 hch hsp1 hap1;obtain⟨p0,-⟩:=hp0;obtain⟨p1,-⟩:=hp1;by_cases hlh:hi<=lo
 ·go_wp2_with fail;exact bodyPost_ret (results_tmp2 rfl _ _ _) rfl ⟨by(try rw[if_pos hlh]);rfl,by(try rw[if_pos hlh]);exact HX1.o,HCH.o⟩
 have htk:takesB b.bl (lo,hi)=true:=takesB_iff.2 ⟨HOK.canon,by have:=HLO.o;have:=HHI.o;dsimp only;omega⟩;have HTK:=hid htk;have hlo1:0<=lo/\off<=lo/\b.rd<=lo:=by have:=HLO.o;omega
 have hhi1:hi<=off+s.size/\hi<=b.rd+b.ring.length:=by have:=HHI.o;omega
 clear htk;go_wp2_with fail;refine wpB (fun w':World=>w'.cell? ⟨B,3,none⟩=some (.slice a b.bl.length cap)/\w'.cell? ⟨w.heap.size,0,none⟩=some (.int .i64 lo)/\w'.cell? ⟨w.heap.size,1,none⟩=some (.int .i64 hi)) (⟨c3.1,p0,p1⟩) fun hZ=>?_;refine wpT4 0 1 2 3 ?_;refine wpT 4 ?_;refine wpR 5 fun Kq hKq=> ?_;go_simp;refine(gaps_any W1.drew W1.heap.size a cap b.bl (lo,hi) (HSP.below (Below.refl _ _).drew) (Nat.le_refl _)).mono ?_;rintro e W2⟨v,rfl,ho,hb2⟩;have hx2:=HX1.drew.below hb2;have q0:=HP0.below (W':=W2) ((Below.refl _ W1).drew.trans hb2) (show w.heap.size<W1.heap.size by omega);have q1:=HP1.below (W':=W2) ((Below.refl _ W1).drew.trans hb2) (show w.heap.size<W1.heap.size by omega);obtain⟨va,vc,hv,hvs,-,hvb⟩:=ho.at (canonF_len (gapsL_spec HTK.o).1);subst hv;have c3':=c3.below (W':=W2) ((Below.refl _ W1).drew.trans hb2) (show B<W1.heap.size by have:=HX1.lt;omega);go_simp;refine hKq.out _ _ (⟨c3'.1,q0.1,q1.1⟩) ?_;clear hKq Kq hZ;refine fun hZ=>wpA ?_;refine wpT 6 ?_;refine wpD ?_ _;clear hZ;have HX2:=hid hx2;have HQ0:=hid q0;have HQ1:=hid q1;have HVS:=hid hvs;have hB1:=HX1.lt;have HVA:=hid (show Apart B R lb (gapsL b.bl (lo,hi)) va from⟨fun ad e=>(hvb ad e).2.2,fun _ ad e=>by have:=(hvb ad e).1;have h2:W1.heap.size<=ad.block:=this;have:=HCH.size;omega⟩);have HC2:=hid (HCH.trans (Chg2.of_below (B:=B) (R:=R) ((Below.refl _ W1).drew.trans hb2)));have hs2:w.heap.size+1<=W2.heap.size:=Nat.le_trans hsz hb2.size;have hs2b:W1.heap.size<=W2.heap.size:=hb2.size;have HGI:=hid (fun k (hk:k<(gapsL b.bl (lo,hi)).length)=>gaps_in HTK.o hk);have HGL:=hid (canonF_len (gapsL_spec HTK.o).1);clear hx2 q0 q1 hvs hvb ho c3 c3' p0 p1 hb2 hsz;generalize hgs:gapsL b.bl (lo,hi)=gs at HGI HVS HVA HGL|-;have HGS:=hid hgs;clear hgs;have hgl:=HGL.o;go_wp2_with fail
 go_loopw [47] (fun p wr=>∃k:Nat,k<=gs.length/\p= .int .i64 k/\BoxAt B R lb { b with ring:=fillsB b.ring off s.data.toList (gs.take k) } wr/\At w.heap.size 0 (.int .i64 lo) wr/\At w.heap.size 1 (.int .i64 hi) wr/\SpAt wr W2.heap.size va gs/\Chg2 B R w wr/\W2.heap.size<=wr.heap.size) (fun p _=>gs.length-(intOf p).toNat)
 case atStart=>exact⟨0,Nat.zero_le _,rfl,HX2.o,HQ0.o,HQ1.o,HVS.o,HC2.o,Nat.le_refl _⟩
 case round =>
  obtain⟨k,hk,rfl,hbx,hq0,hq1,hvs,hch,hsw⟩:=hrel;have HBk:=hid hbx;have HQ0:=hid hq0;have HQ1:=hid hq1;have HV:=hid hvs;have HCk:=hid hch;by_cases hlt:k<gs.length
  ·obtain⟨vb,vo,hva,hvl,hcs⟩:=hvs.cells (by omega);have hvne:=HVA.2 (by omega) _ hva;subst hva;obtain⟨g0,g1⟩:=hcs k hlt;obtain⟨b1,b2,b3⟩:=HGI.o k hlt;obtain⟨qn,hqn⟩:=Int.eq_ofNat_of_zero_le (show 0<=gs[k].1 by omega);obtain⟨i,hi1⟩:=Int.eq_ofNat_of_zero_le (show 0<=gs[k].1-off by omega);obtain⟨j,hj1⟩:=Int.eq_ofNat_of_zero_le (show 0<=gs[k].2-off by omega);have HFT:=hid (fills_take (rg:=b.ring) (off:=off) (s:=s.data.toList) hlt);have HEX:=hid (ext_cut s off gs[k] i j hi1 hj1);have HTN:=hid (show gs[k].1.toNat=qn by omega);have hfl:(fillsB b.ring off s.data.toList (gs.take k)).length=b.ring.length:=fills_len k4 (fun g hg=>by obtain⟨x,hx,rfl⟩:=List.mem_iff_getElem.1 (List.mem_of_mem_take hg);have:=HGI.o x hx;omega);have hij:i<=j:=by omega
   have hjs:j<=s.size:=by omega
   have hjl:j-i<=b.ring.length:=by omega
   have hqs:qn<=4611686018427387904:=by omega
   generalize gs[k]=gk at *;obtain⟨gk1,gk2⟩:=gk;dsimp only at g0 g1 b1 b2 b3 hqn hi1 hj1;subst hqn;have hlt2:(k:Int)<(gs.length:Int):=by omega
   have hwl:w.heap.size<wr.heap.size:=by omega
   clear hbx hq0 hq1 hvs hch hcs;go_wp2_with fail;have hx3:=(HBk.alloc (.cells #[.int .i64 (qn:Int),.int .i64 gk2] 92)).drew;have HX3:=hid hx3;have z0:At wr.heap.size 0 (.int .i64 (qn:Int)) (wr.alloc (.cells #[.int .i64 (qn:Int),.int .i64 gk2] 92)).drew:=At.new (W:=wr) _ rfl rfl;have z1:At wr.heap.size 1 (.int .i64 gk2) (wr.alloc (.cells #[.int .i64 (qn:Int),.int .i64 gk2] 92)).drew:=At.new (W:=wr) _ rfl rfl;clear hx3;refine wpB (fun w':World=>w'.cell? ⟨wr.heap.size,0,none⟩=some (.int .i64 (qn:Int))/\w'.cell? ⟨wr.heap.size,1,none⟩=some (.int .i64 gk2)) (⟨z0.1,z1.1⟩) fun hZ=>?_;refine wpT4 0 1 2 3 ?_;refine wpT2 4 5 ?_;refine wpT 6 ?_;refine wpT 7 (v:=.int .i64 (i:Int)) ?_ (hy:=by intro w hSw;(obtain⟨y0,y1⟩:=hSw);go_simp;(exact IntWalk.i64_in (i:Int) ⟨by omega,by omega⟩));refine wpT2 8 9 ?_;refine wpT 10 ?_;refine wpT 11 (v:=.int .i64 (j:Int)) ?_ (hy:=by intro w hSw;(obtain⟨y0,y1⟩:=hSw);go_simp;(exact IntWalk.i64_in (j:Int) ⟨by omega,by omega⟩));refine wpT 12 (v:=.string (s.extract i j)) ?_ (hy:=by intro w hSw;(obtain⟨y0,y1⟩:=hSw);go_simp;(first | done | skip));refine wpR 13 fun Kq hKq=> ?_;go_simp;refine(fill_any B R (fillsB b.ring off s.data.toList (gs.take k)) qn (s.extract i j) (wr.alloc (.cells #[.int .i64 (qn:Int),.int .i64 gk2] 92)).drew (by obtain⟨_,_,h,_⟩:=HX3.ats;exact h.1) HX3.2.1 HX3.1 (by rw[hfl];exact k4) (by rw[hfl];exact k3) (by rw[ByteArray.size_extract,hfl];omega) hqs).mono ?_;rintro e W3⟨rfl,hr3,hc3⟩;go_simp;refine hKq.out _ _ (⟨chg_cell hc3 z0.1 (by have:=HBk.lt;omega),chg_cell hc3 z1.1 (by have:=HBk.lt;omega)⟩) ?_;clear hKq Kq hZ;refine fun hZ=>wpA ?_;refine wpD ?_ _;clear hZ z0 z1;have hal:Chg2 B R wr (wr.alloc (.cells #[.int .i64 (qn:Int),.int .i64 gk2] 92)).drew:=Chg2.of_below ((Below.refl _ wr).alloc (Nat.le_refl _) _).drew;have hx4:=HX3.ring (rg:=fillB (fillsB b.ring off s.data.toList (gs.take k)) qn (s.extract i j).data.toList) (by rw[length_fillB _ _ _ (by rw[hfl];exact k4) (by rw[<-Lib.size_eq,ByteArray.size_extract,hfl];omega)]) hr3 hc3;have hne3:w.heap.size≠R:=by omega
   have hbk2:=HBk.lt;have y0:=((HQ0.alloc (.cells #[.int .i64 (qn:Int),.int .i64 gk2] 92)));have y1:=((HQ1.alloc (.cells #[.int .i64 (qn:Int),.int .i64 gk2] 92)))
   have hR3:Hid (BoxAt B R lb { b with ring:=fillsB b.ring off s.data.toList (gs.take (k+1)) } W3/\At w.heap.size 0 (.int .i64 lo) W3/\At w.heap.size 1 (.int .i64 hi) W3/\SpAt W3 W2.heap.size (some ⟨vb,vo,none⟩) gs/\Chg2 B R w W3/\W2.heap.size<=W3.heap.size):=by
    refine⟨?_,y0.chg hc3.drew0 hne3,y1.chg hc3.drew0 hne3,?_,HCk.trans (hal.trans (Chg2.of2 hc3)),?_⟩
    ·rw[HFT.o,HTN.o,<-HEX.o];exact hx4
    ·refine SpAt.chg (HV.below ((Below.refl _ wr).alloc hsw _)) hc3.drew0 (by simp;omega) (fun _ ad e=>by cases e;exact hvne.2.1)
    have:=hc3.size;simp at this;omega
   clear hx4 y0 y1 hc3 hr3 hal;go_wp2_with fail
   go_roundw
   case rel=>exact⟨k+1,by omega,by go_num,hR3.out⟩
   case measure=>simp[intOf];omega
  obtain rfl:k=gs.length:=by omega
  rw[List.take_length]at HBk;obtain⟨a2,cap2,-,-,-,n3,n4,hsp2,hcap2,-⟩:=HBk.ats;obtain⟨n4a,n4b⟩:=n4;obtain⟨q0a,q0b⟩:=HQ0.o;obtain⟨q1a,q1b⟩:=HQ1.o;have hBk:=HBk.lt;have hsw2:w.heap.size<wr.heap.size:=by omega
  have HN:=hid (HBk.set (b':={ b with ring:=fillsB b.ring off s.data.toList gs,nw:=lo }) 4 (.int .i64 lo) rfl rfl (fun _ _=>rfl));have HN3:=hid (n3.other ⟨B,4,none⟩ (.int .i64 lo) (by simp));have HSP2:=hid hsp2;have HN3o:=hid n3;clear hsp2 n3 hbx hq0 hq1 hvs hch;go_wp2_with fail;have HC5:=hid (HCk.trans (Chg2.of1 (R:=R) (((Chg.refl B wr).setCell 4 (.int .i64 lo)))));have HP0:=hid (HQ0.ob (C:=B) (j:=4) (.int .i64 lo) (by omega));have HP1:=hid (HQ1.ob (C:=B) (j:=4) (.int .i64 lo) (by omega));have HV5:=hid (SpAt.chg HV.o ((Chg.refl B wr).setCell 4 (.int .i64 lo)) hsw (fun hp ad e=>(HVA.2 hp ad e).1));have hs5:(wr.setCell ⟨B,4,none⟩ (.int .i64 lo)).heap.size=wr.heap.size:=by simp[World.setCell]
  generalize wr.setCell ⟨B,4,none⟩ (.int .i64 lo)=W5 at *;obtain⟨a5,cap5,-,-,-,m3,-,sp5,cl5,ap5⟩:=HN.ats;have HSP5:=hid sp5;have HM3:=hid m3;obtain⟨m3a,m3b⟩:=m3;obtain⟨p0a,p0b⟩:=HP0.o;obtain⟨p1a,p1b⟩:=HP1.o;dsimp only at m3a cl5;clear sp5 q0a q0b q1a q1b n4a n4b HN3 HSP2 HN3o hcap2;refine wpB (fun w':World=>w'.cell? ⟨w.heap.size,0,none⟩=some (.int .i64 lo)/\w'.cell? ⟨w.heap.size,1,none⟩=some (.int .i64 hi)) (⟨p0a,p1a⟩) fun hZ=>?_;refine wpT4 0 1 2 3 ?_;refine wpT 5 ?_;refine wpR 4 fun Kq hKq=> ?_;go_simp;refine hKq.out _ _ (⟨p0a,p1a⟩) ?_;clear hKq Kq hZ;refine fun hZ=>wpA ?_;refine wpR 6 fun Kq hKq=> ?_;go_simp;refine(add_any W5.drew W5.heap.size a5 cap5 b.bl (lo,hi) (HSP5.below (Below.refl _ _).drew) (Nat.le_refl _) cl5).mono ?_;rintro e W6⟨v,rfl,ho,hb6⟩;have hb6':Below W5.heap.size W5 W6:=(Below.refl _ W5).drew.trans hb6;have r0:=HP0.below (W':=W6) hb6' (by omega);have r1:=HP1.below (W':=W6) hb6' (by omega);obtain⟨va6,vc6,hv,hvs6,hvc6,hvb6⟩:=ho.at (canonF_len (addL_spec HTK.o).1);subst hv;have hx6:=HN.below hb6';obtain⟨_,_,-,-,-,⟨u3a,u3b⟩,-⟩:=hx6.ats;go_simp;refine hKq.out _ _ (⟨r0.1,r1.1⟩) ?_;clear hKq Kq hZ;refine fun hZ=>wpA ?_;refine wpT2 7 8 ?_;have hBR:w.heap.size≠B:=by omega
  refine wpR 9 fun Kq hKq=> ?_;go_simp;refine hKq.out _ _ (⟨(r0.ob _ (by omega)).1,(r1.ob _ (by omega)).1⟩) ?_;clear hKq Kq hZ;refine fun hZ=>wpA ?_;refine wpD ?_ _;clear hZ;have HX7:=hid (hx6.setBl va6 vc6 (addL b.bl (lo,hi)) hvs6 hvc6 ⟨fun ad e=>(hvb6 ad e).2.2,fun _ ad e=>by have h1:=(hvb6 ad e).1;have h2:W5.heap.size<=ad.block:=h1;have:=HC5.size;omega⟩ (fun _=>ho.ty));have HC7:=hid ((HC5.trans (Chg2.of_below hb6')).trans (Chg2.of1 (R:=R) ((Chg.refl B W6).setCell 3 (.slice va6 (addL b.bl (lo,hi)).length vc6))));have HV7:=hid (SpAt.chg (HV5.below (hb6'.mono (by omega))) ((Chg.refl B W6).setCell 3 (.slice va6 (addL b.bl (lo,hi)).length vc6)) (by have:=hb6'.size;omega) (fun hp ad e=>(HVA.2 hp ad e).1));have hs7:W5.heap.size<=(W6.setCell ⟨B,3,none⟩ (.slice va6 (addL b.bl (lo,hi)).length vc6)).heap.size:=by simp[World.setCell];exact hb6'.size
  clear r0 r1 hx6 hvs6 hvb6 u3a u3b hb6 hb6' ho
  obtain⟨x,tl,hal⟩:∃x tl,addL b.bl (lo,hi)=x::tl:=by
   have hm:=(addL_spec HTK.o).2 lo
   cases hc:addL b.bl (lo,hi)with
   | nil=>rw[hc]at hm;exact(mem_nil (hm.2 (.inl ⟨Int.le_refl _,by dsimp only;omega⟩))).elim
   | cons x tl=>exact⟨x,tl,rfl⟩
  have HAL:=hid hal;rw[hal]at HX7 HC7 HV7 hs7 hvc6|-;clear hal;generalize W6.setCell ⟨B,3,none⟩ (.slice va6 (x::tl).length vc6)=W7 at *;obtain⟨a7,cap7,-,-,⟨n2a,n2b⟩,⟨n3a,n3b⟩,-,sp7,cl7,ap7⟩:=HX7.ats;obtain⟨xb,xo,hxa,hxl,hxc⟩:=sp7.cells (by simp);have hxne:=ap7.2 (by simp) _ hxa;have hxty:=HX7.typed n3a (by simp) _ hxa;subst hxa;obtain⟨x0,x1⟩:=hxc 0 (by simp);obtain⟨y1,y2⟩:=x;simp only[Nat.zero_mul,Nat.add_zero,List.getElem_cons_zero]at x0 x1;have HSP7:=hid sp7;dsimp only at n2a n3a cl7;simp only[List.length_cons]at n3a cl7 hvc6|-;clear hxc sp7;have HHI2:=hid (show lo<hi from by omega);by_cases hyn:y1=b.nx
  ·subst hyn;go_wp2_with fail;refine wpB (fun w':World=>w'.cell? ⟨B,2,none⟩=some (.int .i64 b.nx)/\w'.cell? ⟨B,3,none⟩=some (.slice (some ⟨xb,xo,none⟩) (tl.length+1) cap7)/\w'.cell? ⟨xb,xo,none⟩=some (.int .i64 b.nx)) (⟨n2a,n3a,x0⟩) fun hZ=>?_;refine wpT4 0 1 2 3 ?_;refine wpT4 4 5 6 7 ?_;refine wpT4 8 9 10 11 ?_;refine wpT4 12 13 14 15 ?_;refine wpT4 16 17 18 19 ?_;refine wpD ?_ _;clear hZ;have hsp9:=HSP7.tail;by_cases hc1:cap7=1
   focus
    obtain rfl:tl=[]:=List.eq_nil_of_length_eq_zero (by omega);have hyn:=True.intro;have hsp8:SpAt W7 W7.heap.size (some ⟨xb,xo,none⟩) []:=⟨by simp,fun h=>by simp at h⟩;have HX8:=hid ((HX7.set (b':={ ring:=fillsB b.ring off s.data.toList gs,rd:=b.rd,nx:=y2,bl:=(b.nx,y2)::[],nw:=lo }) 2 (.int .i64 y2) rfl rfl (fun _ _=>rfl)).setBl (some ⟨xb,xo,none⟩) 0 [] (by have:=SpAt.chg hsp8 ((Chg.refl B W7).setCell 2 (.int .i64 y2)) (Nat.le_refl _) (fun _ ad e=>by cases e;exact hxne.1);simpa[World.setCell]using this) (by first | omega | simp) ⟨fun ad e=>by cases e;rfl,fun _ ad e=>by cases e;exact hxne⟩ (fun _ ad e=>by cases e;exact hxty.of (heap_setCell_other _ _ _ _ hxne.1)));have HC8:=hid (HC7.trans (Chg2.of1 (R:=R) (((Chg.refl B W7).setCell 2 (.int .i64 y2)).setCell 3 (.slice (some ⟨xb,xo,none⟩) 0 0))));have HV8:=hid (SpAt.chg HV7.o (((Chg.refl B W7).setCell 2 (.int .i64 y2)).setCell 3 (.slice (some ⟨xb,xo,none⟩) 0 0)) (by omega) (fun hp ad e=>(HVA.2 hp ad e).1));have hs8:W2.heap.size<=((W7.setCell ⟨B,2,none⟩ (.int .i64 y2)).setCell ⟨B,3,none⟩ (.slice (some ⟨xb,xo,none⟩) 0 0)).drew.heap.size:=by simp[World.setCell];omega
   rotate_left 1
   focus
    have hyn:=True.intro;have hsp8:SpAt W7 W7.heap.size (some ⟨xb,xo+2,none⟩) tl:=hsp9;have HX8:=hid ((HX7.set (b':={ ring:=fillsB b.ring off s.data.toList gs,rd:=b.rd,nx:=y2,bl:=(b.nx,y2)::tl,nw:=lo }) 2 (.int .i64 y2) rfl rfl (fun _ _=>rfl)).setBl (some ⟨xb,xo+2,none⟩) (cap7-1) tl (by have:=SpAt.chg hsp8 ((Chg.refl B W7).setCell 2 (.int .i64 y2)) (Nat.le_refl _) (fun _ ad e=>by cases e;exact hxne.1);simpa[World.setCell]using this) (by first | omega | simp) ⟨fun ad e=>by cases e;rfl,fun _ ad e=>by cases e;exact hxne⟩ (fun _ ad e=>by cases e;exact hxty.of (heap_setCell_other _ _ _ _ hxne.1)));have HC8:=hid (HC7.trans (Chg2.of1 (R:=R) (((Chg.refl B W7).setCell 2 (.int .i64 y2)).setCell 3 (.slice (some ⟨xb,xo+2,none⟩) tl.length (cap7-1)))));have HV8:=hid (SpAt.chg HV7.o (((Chg.refl B W7).setCell 2 (.int .i64 y2)).setCell 3 (.slice (some ⟨xb,xo+2,none⟩) tl.length (cap7-1))) (by omega) (fun hp ad e=>(HVA.2 hp ad e).1));have hs8:W2.heap.size<=((W7.setCell ⟨B,2,none⟩ (.int .i64 y2)).setCell ⟨B,3,none⟩ (.slice (some ⟨xb,xo+2,none⟩) tl.length (cap7-1))).drew.heap.size:=by simp[World.setCell];omega
   all_goals
    clear hsp8;clear hsp9;go_wp2_with fail;refine(count_any _ W2.heap.size va vc gs (HV8.below (Below.refl _ _).drew) hs8).mono ?_;rintro e W9⟨rfl,hb9⟩;have HB9:=hid ((Below.refl _ _).drew.trans hb9);clear hb9;go_wp2_with fail;refine bodyPost_ret (results_tmp2 rfl _ _ _) rfl ⟨?_,?_,HC8.trans (Chg2.of_below HB9.o)⟩
    ·rw[HGS.o];rfl
    have:=HX8.below HB9.o;unfold Bx.putP;rw[HGS.o,HAL.o]
    simpa[joinNx,joinBl,hyn]using this
  go_wp2_with fail;refine wpB (fun w':World=>w'.cell? ⟨B,2,none⟩=some (.int .i64 b.nx)/\w'.cell? ⟨B,3,none⟩=some (.slice (some ⟨xb,xo,none⟩) (tl.length+1) cap7)/\w'.cell? ⟨xb,xo,none⟩=some (.int .i64 y1)) (⟨n2a,n3a,x0⟩) fun hZ=>?_;refine wpT4 0 1 2 3 ?_;refine wpT4 4 5 6 7 ?_;refine wpT4 8 9 10 11 ?_;refine wpT4 12 13 14 15 ?_;refine wpT4 16 17 18 19 ?_;refine wpD ?_ _;clear hZ;have HX8:=HX7;have HC8:=HC7;have HV8:=HV7;have hs8:W2.heap.size<=W7.drew.heap.size:=by show W2.heap.size<=W7.heap.size;omega
  go_wp2_with fail;refine(count_any _ W2.heap.size va vc gs (HV8.below (Below.refl _ _).drew) hs8).mono ?_;rintro e W9⟨rfl,hb9⟩;have HB9:=hid ((Below.refl _ _).drew.trans hb9);clear hb9;go_wp2_with fail;refine bodyPost_ret (results_tmp2 rfl _ _ _) rfl ⟨?_,?_,HC8.trans (Chg2.of_below HB9.o)⟩
  ·rw[HGS.o];rfl
  have:=HX8.below HB9.o;unfold Bx.putP;rw[HGS.o,HAL.o]
  simpa[joinNx,joinBl,hyn]using this
end
section
set_option maxRecDepth 100000
open Go.RowKit Go.Shelf
theorem byteInfo:(Tryz.prog.info? 5).map (fun i=>(i.zero,i.size,i.bytes))=some (some (.int .u8 0),1,1):=by kernel_rfl
theorem ring_of_own {w:World}{base g n cap:Nat}{rg:List UInt8}(h:w.ownsRow base 5 1 (.slice (some ⟨g,0,none⟩) n cap) n (Lib.byteCells rg))(hc:cap=n):RingAt g rg w:=by
 rcases h.2 with⟨e,_⟩ | ⟨g',cap',cur,e,_,hg,_,_,hcs,ht⟩
 ·cases e
 cases e
 subst hc;rw[Nat.mul_one]at hcs ht;rw[List.take_of_length_le (by rw[Array.length_toList];omega)]at ht;unfold RingAt;rw[hg,<-ht]
theorem new_box (n:Nat) (h1:1<=n) (h2:n<=8192) (w:World) :
  Calls Tryz.prog 98 #[.int .i64 n] w fun e w'=>∃B R,e= .returned (.tuple #[.pointer (some ⟨B,0,none⟩),.int .i64 0])/\(∀lb,BoxAt B R lb (bx0 n) w')/\Below w.heap.size w w'/\w.heap.size<=B/\w.heap.size<=R:=by
 obtain⟨i0,hi,hz0,hz1,hz2⟩:=info_parts byteInfo
 go_enter Tryz.func98,Tryz.ntmps98
 go_wp2_with (first | (at_make;refine wpList_make_full _ rfl _ _ _ rfl w.heap.size 5 i0 _ 1 Tryz.underlying112 hi hz0 hz1 _ _ _ _ n rfl rfl rfl rfl (by rw[hz2];omega) (by unfold maxLen;omega) (Nat.le_refl _) ?_))
 intro w1 hown hgr
 have hR:RingAt w.heap.size (List.replicate n 0) w1:=by
  refine ring_of_own (base:=w.heap.size) (n:=n) (cap:=n) ?_ rfl
  have e:(madeCells #[Value.int .u8 0] n).toList=Lib.byteCells (List.replicate n 0):=by
   apply List.ext_getElem
   ·simp[madeCells,Lib.byteCells]
   intro i h1 h2
   simp[madeCells,Lib.byteCells,Nat.mod_one]
  rw[<-e];exact hown
 have hlt:=(World.ownsRow.lt hown w.heap.size rfl).2;have hb:Below w.heap.size w w1:=grown_below hgr (Nat.le_refl _) (fun k e=>by cases e);have HR:=hid hR;have HB:=hid hb;clear hown hgr hR hb;go_wp2_with fail;refine bodyPost_ret (results_tmp2 rfl _ _ _) rfl ⟨w1.heap.size,w.heap.size,rfl,fun lb=>⟨by omega,?_,none,0,?_,⟨⟨by simp[bx0],fun h=>by simp[bx0]at h⟩,fun h=>by simp[bx0]at h⟩,by simp[bx0],fun ad e=>(by cases e),fun h=>by simp[bx0]at h⟩,HB.alloc HB.size _,HB.size,Nat.le_refl _⟩
 ·unfold RingAt;rw[Below.heap_alloc _ _ _ hlt];exact HR.o
 rw[heap_alloc_new];unfold bxCells bx0
 simp
theorem bx0_ok (n:Nat)(h1:1<=n)(h2:n<=8192):(bx0 n).Ok:=by
 have e:(bx0 n).ring.length=n:=by simp[bx0]
 refine⟨by omega,by omega,Int.le_refl _,Int.le_refl _,?_,?_,rfl,fun i hi=>(mem_nil hi).elim⟩
 ·rw[e];show(0:Int)<=0+n;omega
 rw[e];show(0:Int)+n<=_;omega
theorem len_any (B R lb:Nat)(b:Bx)(w:World)(h:BoxAt B R lb b w)(ok:b.Ok) :
  Calls Tryz.prog 80 #[.pointer (some ⟨B,0,none⟩)] w fun e w'=>e= .returned (.int .i64 (b.nx-b.rd))/\w'=w.drew:=by
 obtain⟨a,cap,-,⟨c1,-⟩,⟨c2,-⟩,-⟩:=h.ats;have h1:=ok.rd0;have h2:=ok.small;have h3:=ok.most;have h4:=ok.rdnx;have h5:=ok.nxend
 go_enter Tryz.func80,Tryz.ntmps80
 go_wp2
 go_region
 all_goals
  go_wp2
  go_ret;exact⟨rfl,rfl⟩
theorem room_any (B R lb:Nat)(b:Bx)(w:World)(h:BoxAt B R lb b w)(ok:b.Ok) :
  Calls Tryz.prog 170 #[.pointer (some ⟨B,0,none⟩)] w fun e w'=>e= .returned (.int .i64 (b.rd+b.ring.length-b.nx))/\w'=w.drew.drew:=by
 obtain⟨a,cap,-,-,⟨c2,-⟩,-⟩:=h.ats;have h1:=ok.rd0;have h2:=ok.small;have h3:=ok.most;have h4:=ok.rdnx;have h5:=ok.nxend;have hw:=IntWalk.i64_in (b.rd+(b.ring.length:Int)-b.nx) ⟨by omega,by omega⟩
 go_enter Tryz.func170,Tryz.ntmps170
 go_wp2_with fail
 go_region_with (first | (go_at_call 205;refine(end_any B R lb b _ h.drew ok).mono ?_;rintro e w' ⟨rfl,rfl⟩))
 all_goals
  go_wp2;go_ret;exact⟨rfl,rfl⟩
end
section
set_option maxRecDepth 100000
open Go.RowKit Go.Shelf
theorem ring_cell {W:World}{g:Nat}{rg:List UInt8}(h:RingAt g rg W)(j:Nat)(hj:j<rg.length):W.cell? ⟨g,j,none⟩=some (.int .u8 (rg[j].toNat:Int)):=by
 rw[cell_of_row _ _ _ _ _ _ h]
 simp[Lib.byteCells,hj]
theorem ring_conv {W:World}{g:Nat}{rg:List UInt8}(h:RingAt g rg W)(n cap:Nat)(hn:rg.length=n):(convert 112 9 (.slice (some ⟨g,0,none⟩) n cap)).run Tryz.prog W= .ok (.string ⟨rg.toArray⟩) W:=by
 subst hn;refine run_convert_bytes_back _ _ _ 5 _ _ rg Tryz.underlying112 Tryz.underlying5 Tryz.underlying9 fun j hj=> ?_;rw[Addr.add_lit,Nat.zero_add];exact ring_cell h j hj
theorem splice_bytes (z:List UInt8)(o:Nat)(cs:List UInt8):splice (Lib.byteCells z) o (Lib.byteCells cs)=Lib.byteCells (splB z o cs):=by
 rw[byteCells_splB,splice,Lib.byteCells_length,List.append_assoc]
theorem ring_src {W:World}{g:Nat}{rg:List UInt8}(h:RingAt g rg W)(o m:Nat):∀j v,(Lib.byteCells ((rg.drop o).take m))[j]? =some v->W.cell? ((⟨g,o,none⟩:Addr).add j)=some v:=by
 intro j v hv;rw[Addr.add_lit]
 have hj:j<((rg.drop o).take m).length:=by
  rcases Nat.lt_or_ge j ((rg.drop o).take m).length with h1 | h1
  ·exact h1
  rw[List.getElem?_eq_none (by rw[Lib.byteCells_length];exact h1)]at hv;cases hv
 rw[List.length_take,List.length_drop]at hj;rw[ring_cell h (o+j) (by omega)];rw[<-hv];simp only[Lib.byteCells,List.getElem?_map];rw[List.getElem?_take_of_lt (by omega),List.getElem?_drop,List.getElem?_eq_getElem (by omega)];rfl
theorem read_two (rg:List UInt8)(o q m:Nat)(ho:o<rg.length)(hq:q<=rg.length)(hm:m=min (rg.length-o) q) :
  splB (splB (List.replicate q 0) 0 ((rg.drop o).take m)) m (rg.take (q-m))=(rg.drop o).take q++rg.take (q-(rg.length-o)):=by
 have l1:((rg.drop o).take m).length=m:=by rw[List.length_take,List.length_drop];omega
 have l2:(rg.take (q-m)).length=q-m:=by rw[List.length_take];omega
 have e1:splB (List.replicate q 0) 0 ((rg.drop o).take m)=(rg.drop o).take m++List.replicate (q-m) 0:=by
  unfold splB;rw[l1,List.take_zero,List.nil_append,Nat.zero_add,List.drop_replicate]
 have hd:((rg.drop o).take m++List.replicate (q-m) 0).drop (m+(q-m))=[]:=List.drop_eq_nil_of_le (by rw[List.length_append,l1,List.length_replicate];omega);rw[e1];unfold splB;rw[List.take_left' l1,l2,hd,List.append_nil,show q-(rg.length-o)=q-m by omega]
 congr 1
 by_cases h:q<=rg.length-o
 ·rw[show m=q by omega]
 rw[show m=rg.length-o by omega,List.take_of_length_le (by rw[List.length_drop];omega),List.take_of_length_le (by rw[List.length_drop];omega)]
set_option maxHeartbeats 4000000 in
theorem take_any (B R lb:Nat) (b:Bx) (k:Int) (w:World) (h:BoxAt B R lb b w) (ok:b.Ok) :
  Calls Tryz.prog 122 #[.pointer (some ⟨B,0,none⟩),.int .i64 k] w fun e w'=>e= .returned (.string ⟨(b.takeS k).toArray⟩)/\BoxAt B R lb (b.take k) w'/\Chg B w w':=by
 have HBX:=hid h;have HOK:=hid ok;have k1:=ok.rd0;have k2:=ok.small;have k3:=ok.most;have k4:=ok.one;have k5:=ok.rdnx;have k6:=ok.nxend;clear h ok;by_cases hz:min k (b.nx-b.rd)<=0
 ·have HR:=hid (show b.takeS k=[]/\b.take k=b from⟨by unfold Bx.takeS;rw[if_pos hz],by unfold Bx.take;rw[if_pos hz]⟩);rw[HR.1,HR.2];by_cases hk:b.nx-b.rd<k
  all_goals
   go_enter Tryz.func122,Tryz.ntmps122
   go_wp2_with fail;refine(len_any B R lb b _ HBX.o HOK.o).mono ?_;rintro e w1⟨rfl,rfl⟩;have hle:k<=0\/b.nx-b.rd<=0:=by omega
   (first | (have h1:b.nx-b.rd<=0:=by omega) | (have h1:k<=0:=by omega))
   clear hz hle;go_wp2;go_ret;exact⟨rfl,HBX.drew,(Chg.refl _ _).drew⟩
 obtain⟨q,hq⟩:=Int.eq_ofNat_of_zero_le (show 0<=min k (b.nx-b.rd) by omega);have HR:=hid (show b.takeS k=readB b.ring b.rd.toNat q/\b.take k={ b with rd:=b.rd+q }from⟨by unfold Bx.takeS;rw[if_neg hz,hq];try rfl,by unfold Bx.take;rw[if_neg hz,hq];try rfl⟩);rw[HR.1,HR.2];obtain⟨r,hr⟩:=Int.eq_ofNat_of_zero_le k1;have hrq:b.rd=(r:Int):=hr;have hq1:1<=q:=by omega
 have hq2:q<=b.ring.length:=by omega
 obtain⟨n,hn⟩:∃n,n=b.ring.length:=⟨_,rfl⟩;have hmod:(r:Int).tmod (n:Int)=((r%n:Nat):Int):=by rw[Int.tmod_eq_emod_of_nonneg (by omega)];rfl
 obtain⟨o,ho⟩:∃o,o=r%n:=⟨_,rfl⟩;have hon:o<n:=by rw[ho];exact Nat.mod_lt _ (by omega)
 rw[<-ho]at hmod;have HRO:=hid (show b.rd.toNat%b.ring.length=o by rw[ho,hrq,hn];try rfl);obtain⟨i0,hi,hz0,hz1,hz2⟩:=info_parts byteInfo;have HH:Hid (∀v:Int,v=(q:Int)->True):=fun _ _=>trivial;clear HH;by_cases hk:b.nx-b.rd<k
 all_goals
  (first | (have hv:b.nx-(r:Int)=(q:Int):=by omega) | (have hv:k=(q:Int):=by omega))
  have HN:=hid hn;rw[<-hn]at k2 k3 k4 k6 hq2;have hno:n≠o:=by omega
  have hno2:o<=n:=by omega
  have hnz:n≠0:=by omega
  have hqp:¬((q:Int)<=0):=by omega
  clear hz hq hr ho hn
  go_enter Tryz.func122,Tryz.ntmps122
  go_wp2_with fail;refine(len_any B R lb b _ HBX.o HOK.o).mono ?_;rintro e w1⟨rfl,rfl⟩
  go_wp2_with (first | (at_make;refine wpList_make_full _ rfl _ _ _ rfl w.heap.size 5 i0 _ 1 Tryz.underlying112 hi hz0 hz1 _ _ _ _ q rfl rfl rfl rfl (by rw[hz2];omega) (by unfold maxLen;omega) (Nat.le_refl _) ?_))
  intro w2 hown hgr;have hlt2:=(World.ownsRow.lt hown w.heap.size rfl).2
  have hrg:RingAt w.heap.size (List.replicate q 0) w2:=by
   refine ring_of_own (base:=w.heap.size) (n:=q) (cap:=q) ?_ rfl
   have e:(madeCells #[Value.int .u8 0] q).toList=Lib.byteCells (List.replicate q 0):=by
    apply List.ext_getElem
    · simp[madeCells,Lib.byteCells]
    · intro i h1 h2
      simp[madeCells,Lib.byteCells,Nat.mod_one]
   rw[<-e];exact hown
  have hb2:Below w.heap.size w w2:=(Below.refl _ w).drew.trans (grown_below hgr (Nat.le_refl _) (fun k e=>by cases e));have hx2:=HBX.below hb2;obtain⟨a,cap,⟨c0,-⟩,⟨c1,f1⟩,-⟩:=hx2.ats;rw[<-HN.o]at c0;rw[hrq]at c1;have HRG:=hid hrg;have HB2:=hid hb2;have HX2:=hid hx2;have hBl:=HBX.lt;clear hown hgr hrg hb2 hx2;obtain⟨m,hm⟩:∃m,m=min (n-o) q:=⟨_,rfl⟩;have hml:m<=q:=by omega
  have HM:=hid hm;have HCL:=hid (show(Lib.byteCells ((b.ring.drop o).take m)).length=Nat.min (n-o) q by rw[Lib.byteCells_length,List.length_take,List.length_drop,<-HN.o];show _=min _ _;omega);have HCL2:=hid (show(Lib.byteCells (b.ring.take (q-m))).length=Nat.min n (q-m) by rw[Lib.byteCells_length,List.length_take,<-HN.o];show _=min _ _;omega);have HCM:=hid (show(Lib.byteCells ((b.ring.drop o).take m)).length=m by rw[Lib.byteCells_length,List.length_take,List.length_drop,<-HN.o];omega);clear hm;go_wp2_with fail;refine wpB (fun w':World=>w'.cell? ⟨B,0,none⟩=some (.slice (some ⟨R,0,none⟩) n n)/\w'.cell? ⟨B,1,none⟩=some (.int .i64 (r:Int))) (⟨c0,c1⟩) fun hZ=>?_;refine wpT4 0 1 2 3 ?_;refine wpT4 4 5 6 7 ?_;refine wpT4 8 9 10 11 ?_;refine wpT4 12 13 14 15 ?_;refine wpR 16 fun Kq hKq=> ?_;refine step_copy_splice rfl _ _ _ _ rfl 5 Tryz.underlying112 (by kernel_rfl) (some ⟨w.heap.size,0,none⟩) (some ⟨R,o,none⟩) q q (n-o) (n-o) rfl rfl w.heap.size 0 (Lib.byteCells (List.replicate q 0)) 5 HRG.o (Lib.byteCells ((b.ring.drop o).take m)) HCL.o (fun _=>⟨rfl,_,rfl,ring_src HX2.2.1 o m⟩) (by rw[Lib.byteCells_length,Lib.byteCells_length,List.length_take,List.length_replicate];omega) (Lib.byteCells_one _) w.heap.size w HB2.drew (Nat.le_refl _) ?_;intro w3 hr3 hb3;rw[HCM.o];have hx3:=HBX.below hb3;obtain⟨a3,cap3,⟨d0,-⟩,⟨d1,g1⟩,-⟩:=hx3.ats;rw[<-HN.o]at d0;rw[hrq]at d1;refine hKq.out _ _ (⟨d0,d1⟩) ?_;clear hKq Kq hZ;refine fun hZ=>wpA ?_;refine wpT 17 ?_;refine wpD ?_ _;clear hZ c0 c1 f1;have HR3:=hid (show RingAt w.heap.size (splB (List.replicate q 0) 0 ((b.ring.drop o).take m)) w3 from by have:=hr3.out;rw[splice_bytes]at this;exact this);have HB3:=hid hb3;have HX3:=hid hx3;clear hr3 hb3 hx3;go_wp2_with fail;refine wpB (fun w':World=>w'.cell? ⟨B,0,none⟩=some (.slice (some ⟨R,0,none⟩) n n)) (d0) fun hZ=>?_;refine wpT4 0 1 2 3 ?_;refine wpT2 4 5 ?_;refine wpT 6 ?_;refine wpR 7 fun Kq hKq=> ?_;refine step_copy_splice rfl _ _ _ _ rfl 5 Tryz.underlying112 (by kernel_rfl) _ (some ⟨R,0,none⟩) (q-m) (q-m) n n rfl rfl w.heap.size m (Lib.byteCells (splB (List.replicate q 0) 0 ((b.ring.drop o).take m))) 5 HR3.o (Lib.byteCells (b.ring.take (q-m))) HCL2.o (fun hp=>⟨by rw[HCL2.o]at hp;have hp2:0<min n (q-m):=hp;simp;omega,_,rfl,by have:=ring_src HX3.2.1 0 (q-m);rw[List.drop_zero]at this;exact this⟩) (by rw[Lib.byteCells_length,Lib.byteCells_length,List.length_take,length_splB _ _ _ (by rw[List.length_take,List.length_replicate,List.length_drop];omega),List.length_replicate];omega) (Lib.byteCells_one _) w.heap.size w HB3.drew (Nat.le_refl _) ?_;intro w4 hr4 hb4;have hx4:=HBX.below hb4;obtain⟨a4,cap4,⟨u0,-⟩,⟨u1,u1f⟩,-⟩:=hx4.ats;rw[<-HN.o]at u0;rw[hrq]at u1;refine hKq.out _ _ (u0) ?_;clear hKq Kq hZ;refine fun hZ=>wpA ?_;refine wpD ?_ _;clear hZ
  have hr5:RingAt w.heap.size (readB b.ring b.rd.toNat q) w4:=by
   have:=hr4.out;rw[splice_bytes,read_two _ _ _ _ (by rw[<-HN.o];exact hon) (by rw[<-HN.o];exact hq2) (by rw[<-HN.o];exact HM.o)]at this;unfold RingAt readB;rw[HRO.o];exact this
  have hrl:(readB b.ring b.rd.toNat q).length=q:=by
   unfold readB;rw[HRO.o,List.length_append,List.length_take,List.length_drop,List.length_take,<-HN.o];omega
  have hcv:∀v:Value,(convert 112 9 (.slice (some ⟨w.heap.size,0,none⟩) q q)).run Tryz.prog (w4.setCell ⟨B,1,none⟩ v)= .ok (.string ⟨(readB b.ring b.rd.toNat q).toArray⟩) (w4.setCell ⟨B,1,none⟩ v):=fun v=>ring_conv (by unfold RingAt;rw[heap_setCell_other w4 ⟨B,1,none⟩ _ v (by show w.heap.size≠B;omega)];exact hr5) q q hrl;have hcv2:=hcv (.int .i64 ((r:Int)+(q:Int)));have HX5:=hid (hx4.set (b':={ b with rd:=b.rd+q }) 1 (.int .i64 (b.rd+q)) rfl rfl (fun _ _=>rfl));have HC5:=hid ((Chg.of_below (B:=B) hb4).setCell 1 (.int .i64 (b.rd+q)));rw[hrq]at HX5 HC5;clear hr4 hb4 hx4 hcv hr5 hrl HR3 HB3 HX3 HRG HB2 HX2;go_wp2_with fail
  all_goals
   go_ret
   first
   | exact⟨rfl,HX5.o,HC5.o⟩
   | (
     have hqm:q=m:=by assumption
     subst hqm;exact⟨rfl,HX5.o,HC5.o⟩)
end

structure PI (S:List UInt8)(N:Nat)(b:Bx)(got:List UInt8):Prop where
 ok:b.Ok
 len:S.length=N
 small:N<=1000
 str:b.Str S
 rd:b.rd=got.length
 got:got=S.take got.length
 has:∀i,b.has i->i<N
theorem PI.nx {S:List UInt8}{N:Nat}{b:Bx}{got:List UInt8}(h:PI S N b got):b.nx<=N:=by
 rcases(show b.nx<=N\/(N:Int)<b.nx by omega)with g | g
 ·exact g
 have:=h.has N (.inl (by omega));omega
theorem PI.start {S:List UInt8}{N:Nat}(hl:S.length=N)(hs:N<=1000){n:Nat}(h1:1<=n)(h2:n<=8192):PI S N (bx0 n) []:=by
 refine⟨bx0_ok n h1 h2,hl,hs,fun i _ hh=> ?_,rfl,by simp,fun i hh=> ?_⟩
 ·rcases hh with⟨_,g⟩ | g
  ·have:(i:Int)<0:=g;omega
  exact(mem_nil g).elim
 rcases hh with⟨a,g⟩ | g
 ·have:i<0:=g;omega
 exact(mem_nil g).elim
theorem PI.put {S:List UInt8}{N:Nat}{b:Bx}{got:List UInt8}(h:PI S N b got){off to:Nat}(h1:off<=to)(h2:to<=N){s:List UInt8}(hs:s=(S.drop off).take (to-off)) :
  PI S N (b.put off s) got/\(b.put off s).rd=b.rd/\(b.put off s).ring.length=b.ring.length/\b.nx<=(b.put off s).nx/\(off<=b.nx->b.nx<to->b.nx<b.rd+b.ring.length->b.nx<(b.put off s).nx):=by
 have hsm:=h.small;have hl:=h.len;have hsl:s.length=to-off:=by rw[hs,List.length_take,List.length_drop];omega
 obtain⟨p1,p2,p3,p4,p5⟩:=Bx.put_spec h.ok s (off:=off) (by omega) (by omega);refine⟨⟨p1,hl,hsm,?_,p2.trans h.rd,h.got,fun i hi=> ?_⟩,p2,p3,p4,fun g1 g2 g3=> ?_⟩
 ·refine h.str.put h.ok s (by omega) (fun i i1 i2=> ?_);rw[hsl]at i2;rw[hs,List.getElem?_take_of_lt (by omega),List.getElem?_drop]
  congr 1
  omega
 ·rcases(p5 i).1 hi with g | g
  ·exact h.has i g
  rw[hsl]at g;omega
 rcases(show b.nx=(b.put off s).nx\/b.nx<(b.put off s).nx by omega)with e | e
 ·exfalso
  apply p1.nope
  rw[<-e];exact(p5 _).2 (.inr ⟨g1,by rw[hsl];omega,g3⟩)
 exact e
theorem PI.take {S:List UInt8}{N:Nat}{b:Bx}{got:List UInt8}(h:PI S N b got)(k:Int) :
  PI S N (b.take k) (got++b.takeS k)/\(b.take k).nx=b.nx/\(b.take k).ring.length=b.ring.length/\((b.takeS k).length:Int)=max 0 (min k (b.nx-b.rd)):=by
 have hsm:=h.small;have hl:=h.len;have hnx:=h.nx;have h2:=h.ok.rdnx;have hm:=h.ok.most;obtain⟨q,q1,q2,q3,q4,q5⟩:=h.str.take h.ok (r:=got.length) h.rd k;obtain⟨t1,t2,t3,t4⟩:=b.take_has k;refine⟨⟨h.ok.take k (by rw[q2];omega),hl,hsm,q3,?_,?_,fun i hi=>h.has i ((t4 i).1 hi)⟩,t1,by rw[t3],by rw[q4];exact q1⟩
 ·rw[q2,h.rd,List.length_append,q4];omega
 have hq:got.length+q<=N:=by have:=h.rd;omega
 apply List.ext_getElem?
 intro i;by_cases h1:i<got.length
 ·rw[List.getElem?_append_left h1,List.getElem?_take_of_lt (by rw[List.length_append];omega)]
  conv=>lhs;rw[h.got]
  rw[List.getElem?_take_of_lt h1]
 by_cases h3:i<got.length+q
 ·rw[List.getElem?_append_right (by omega),q5 _ (by omega),List.getElem?_take_of_lt (by rw[List.length_append];omega)]
  congr 1
  omega
 rw[List.getElem?_eq_none (by rw[List.length_append];omega),List.getElem?_eq_none (by rw[List.length_take,List.length_append];omega)]
theorem PI.got_le {S:List UInt8}{N:Nat}{b:Bx}{got:List UInt8}(h:PI S N b got):got.length<=N:=by
 have:=h.rd;have:=h.nx;have:=h.ok.rdnx;omega
end Go.Proofs.YtclkcmidhhfdmaaGreatDoor
