import Derived.Test.YtclkcmidhhfdmaaGreatDoorUb2
import Derived.Test.YtclkcmidhhfdmaaGreatDoorUb5
import Derived.Lib.BufferWrite
import Derived.Deep.RegionLaw
import Derived.BigRegion
import Derived.Laws.CopyOwn
import Derived.BigQuiet
import Derived.IntWalk
namespace Go.Proofs.YtclkcmidhhfdmaaGreatDoor
open Lib (hid)
section
set_option maxRecDepth 100000
open Go.RowKit Go.Shelf
theorem mD {P:Program}(w:World)(dT sT ty elem:TypeId)(g o dLen dCap:Nat)(s:ByteArray)(cur:Array Value)(t:TypeId)
  (hu:P.underlying dT=some (.slice elem))(hs:(P.info? elem).map (·.size)=some 1)(hg:w.heap[g]? =some (.cells cur t (0,0)))(hfit:o+min s.size dLen<=cur.size) :
  (Builtin.copy_ #[dT,sT] ty #[.slice (some ⟨g,o,none⟩) dLen dCap,.string s]).run P w =
   .ok (goInt (min s.size dLen:Nat)) (w.setRow g (cur.toList.take o++Lib.byteCells (s.data.toList.take (min s.size dLen))++cur.toList.drop (o+min s.size dLen)).toArray):=by
 have hlen:(Lib.byteCells (s.data.toList.take (min s.size dLen))).length=min s.size dLen:=by rw[Lib.byteCells_length,List.length_take,<-Lib.size_eq];omega
 have hst:=run_storeCells_at P g o t (Lib.byteCells (s.data.toList.take (min s.size dLen))) 0 cur w hg (by rw[hlen];simpa using hfit) (Lib.byteCells_one _)
 have htk:List.take (min s.size dLen) (List.map (fun b:UInt8=>Value.int IntKind.u8 (b.toNat:Int)) s.data.toList)=Lib.byteCells (s.data.toList.take (min s.size dLen)):=by
  rw[<-List.map_take];rfl
 have hmin:Nat.min s.size dLen=min s.size dLen:=rfl;rw[hlen]at hst;simp only[Nat.add_zero]at hst
 cases hq:P.info? elem with
 | none=>simp[hq]at hs
 | some i =>
  simp[Builtin.copy_,run_underlying hu,Builtin.lenOf,Builtin.firstCells,sizeOf,typeInfo,hq,hmin]
  rw[htk,hst]
  simp[Result.andThen]
theorem gn {P:Program}{ops:Array Oper}{o:Oper}{a:Act}{w:World}{K:Act->World->Prop}{Q:Exit->Act->World->Prop}{E:Prop}(hgd:o.guard=none)(d s:Operand)(dT sT:TypeId)
  (ho:o.op= .call { callee:=.builtin .copy,args:= #[d,s],argTypes:= #[dT,sT] })(elem:TypeId)(hu:P.underlying dT=some (.slice elem))(hsz:(P.info? elem).map (·.size)=some 1)
  (g off dLen dCap:Nat)(hd:a.eval d= .slice (some ⟨g,off,none⟩) dLen dCap)(str:ByteArray)(hs:a.eval s= .string str)
  (cur:Array Value)(t:TypeId)(hg:w.heap[g]? =some (.cells cur t (0,0)))(hfit:off+min str.size dLen<=cur.size)
  (h:∀w',Hid (w'.heap[g]? =some (.cells (cur.toList.take off++Lib.byteCells (str.data.toList.take (min str.size dLen))++cur.toList.drop (off+min str.size dLen)).toArray t (0,0)))->Hid (Chg g w w')->K (a.put o.dst (goInt (min str.size dLen:Nat))) w') :
  if Region.wanted o (yielded ops a.tmps)=true then Oper.wp P o a w K Q else E:=by
 have hw:Region.wanted o (yielded ops a.tmps)=true:=by simp[Region.wanted,hgd]
 rw[if_pos hw];have hrun:=mD (P:=P) w dT sT o.type elem g off dLen dCap str cur t hu hsz hg hfit;unfold Oper.wp;simp only[execOp,ho,resolve,invoke,builtin,Sem.run_bind,Sem.run_pure,Result.andThen_ok,List.map_toArray,List.map_cons,List.map_nil,hs,hd,hrun];exact h _ (setRow_heap w g cur _ t _ hg) ⟨rfl,rfl,rfl,by simp,fun k _ hk=>setRow_other w g k _ hk⟩
theorem eD (rg:List UInt8)(o:Nat)(cs:List UInt8):Lib.byteCells (ee rg o cs)=(Lib.byteCells rg).take o++Lib.byteCells cs++(Lib.byteCells rg).drop (o+cs.length):=by
 unfold ee Lib.byteCells;rw[List.map_append,List.map_append,List.map_take,List.map_drop,List.append_assoc]
theorem kA {R B i:Nat}{v:Value}{w w':World}(h:Chg R w w')(hc:w.cell? ⟨B,i,none⟩=some v)(hne:B≠R):w'.cell? ⟨B,i,none⟩=some v :=
 (World.cell?_of_block (a:=⟨B,i,none⟩) (h.block B (block_lt_of_cell hc) hne)).trans hc
theorem Chg.drew0 {B:Nat}{w w':World}(h:Chg B w.drew w'):Chg B w w':=⟨h.os,h.tape,h.output,h.size,h.block⟩
theorem sK (s:ByteArray)(m:Nat):(s.extract m s.size).data.toList=s.data.toList.drop m:=by
 rw[ByteArray.data_extract,Array.toList_extract,List.extract_eq_take_drop];exact List.take_of_length_le (by rw[List.length_drop,Array.length_toList];exact Nat.le_refl _)
def bK (R:Nat)(rg:List UInt8)(w:World):Prop:=w.heap[R]? =some (.cells (Lib.byteCells rg).toArray 5 (0,0))
set_option maxHeartbeats 1000000 in
theorem sL (B R:Nat) (rg:List UInt8) (k:Nat) (s:ByteArray) (w:World) (hB:w.cell? B=some (.slice (some ⟨R,0,none⟩) rg.length rg.length)) (hR:bK R rg w) (hne:B≠R) (h1:1<=rg.length) (hn:rg.length<=8192)
  (hs:s.size<=rg.length) (hk:k<=4611686018427387904) :
  Calls Tryz.prog 215 #[B,.int .i64 k,.string s] w fun e w'=>e= .returned (.tuple #[])/\bK R (cc rg k s.data.toList) w'/\Chg R w w':=by
 obtain⟨n,hln⟩:∃n,n=rg.length:=⟨_,rfl⟩;rw[<-hln]at hB h1 hn hs;have hlt:k%n<n:=Nat.mod_lt _ (by omega);have bn:(k:Int).tmod (n:Int)=((k%n:Nat):Int):=by rw[Int.tmod_eq_emod_of_nonneg (by omega)];rfl
 have d9:=hid hln;clear hln;generalize hko:k%n=o at *;have hA:=hid hko;clear hko;have hno:n≠o:=by omega
 have HR:=hid hR;clear hR;have hcn:(Lib.byteCells rg).toArray.size=n:=by rw[List.size_toArray,Lib.byteCells_length];exact d9.symm
 have fb:=hid hcn;clear hcn;have hz:n≠0:=by omega
 have hle:o<=n:=by omega
 go_enter Tryz.func215,Tryz.ntmps215
 go_wp2_with fail
 go_region_law (refine gn rfl _ _ _ _ rfl 5 Tryz.underlying112 (by kernel_rfl) R o (n-o) (n-o) (by simp[Act.eval,Act.put]) s (by simp[Act.eval,Act.put]) _ _ HR.o (by rw[fb.o];omega) ?_;intro w1 hr1 hc1;have hE:=kA hc1.out (show w.drew.cell? _=_ from hB) hne)
 all_goals
  obtain⟨m,hm⟩:∃m,m=min s.size (n-o):=⟨_,rfl⟩
  have hr2:bK R (ee rg o (s.data.toList.take m)) w1:=by
   have h:=hr1.out;unfold bK;rw[eD,List.length_take,<-Lib.size_eq,show min m s.size=m by omega];rw[<-hm]at h;exact h
  rw[<-hm];clear hr1 HR fb;have HM:=hid hm;have hF:=hid hr2;have kn:m<=s.size:=by omega
  have hrl:(Lib.byteCells (ee rg o (s.data.toList.take m))).toArray.size=n:=by rw[List.size_toArray,Lib.byteCells_length,cq _ _ _ (by rw[List.length_take,<-d9.o];omega)];exact d9.symm
  have hG:=hid hrl;clear hrl;clear hm hr2;go_wp2_with fail
  go_region_law (refine gn rfl _ _ _ _ rfl 5 Tryz.underlying112 (by kernel_rfl) R 0 n n (by simp[Act.eval]) (s.extract m s.size) (by simp[Act.eval]) _ _ hF.o (by rw[hG.o];omega) ?_;intro w2 hr3 hc3)
  refine bodyPost_end (results_none rfl _ _ _) rfl ⟨rfl,?_,hc1.out.drew0.trans hc3.out.drew0⟩;have h:=hr3.out;rw[sK,show min (s.extract m s.size).size n=(s.data.toList.drop m).length by rw[ByteArray.size_extract,List.length_drop,<-Lib.size_eq];omega,List.take_length]at h;unfold bK cc;rw[<-d9.o,hA.o,eD,<-Lib.size_eq,<-HM.o];exact h
end
section
set_option maxRecDepth 100000
open Go.RowKit Go.Shelf
attribute [local go_sem] Oper.semAt_some
theorem qX {s:Sp}{L:List Sp}{k:Nat}(h:k<L.length):gr s (L.drop k)=if L[k].2<s.1 then L[k]::gr s (L.drop (k+1))else if s.2<L[k].1 then s::L[k]::L.drop (k+1)else gr (min s.1 L[k].1,max s.2 L[k].2) (L.drop (k+1)):=by
 rw[List.drop_eq_getElem_cons h];rfl
theorem my {e:Int}{L:List Sp}(h:aH e L=true):aw L=L:=by
 unfold aw;rw[List.filter_eq_self];intro x hx;obtain⟨k,hk,rfl⟩:=List.mem_iff_getElem.1 hx
 simpa using (dz h hk).2.1
theorem mE {e:Int}{L:List Sp}(h:aH e L=true)(k:Nat):∃e',aH e' (L.drop k)=true:=by
 induction L generalizing e k with
 | nil=>exact⟨0,by simp;rfl⟩
 | cons x L ih =>
  cases k with
  | zero=>exact⟨e,h⟩
  | succ k=>rw[aA]at h;exact ih h.2 k
def iB (N M Q:Nat)(w:World)(y:Sp)(outs:List Sp)(v:Value)(r:Nat)(W:World):Prop :=
 At N 0 y.1 W/\At N 1 y.2 W/\At Q 0 v W/\At (Q+1) 0 (r:Int) W/\aG W M v outs/\Below N w W/\(∀b,v.ownBlock=some b->b<Q\/Q+2<=b)/\y.1<y.2
def xI (N M Q:Nat)(w:World)(s:Sp)(L:List Sp)(k:Nat)(W:World):Prop :=
 ∃y outs v,iB N M Q w y outs v L.length W/\outs.length<=k/\gr s L=outs++gr y (L.drop k)
def xJ (N M Q:Nat)(w:World)(s:Sp)(L:List Sp)(c:Code)(k:Nat)(W:World):Prop :=
 ∃y outs v,iB N M Q w y outs v k W/\outs.length<=k/\gr s L=outs++y::L.drop k/\c= .exit 0
theorem kB {N M Q:Nat}{w:World}{y:Sp}{outs:List Sp}{v:Value}{r:Nat}{B:Nat}(hN:N<=w.heap.size)(hB:N<=B){A A':World}{row:Option Nat}(h:iB N M Q w y outs v r A)(hg:A.grownBy A' row)
  (hr:∀r,row=some r->B<=r/\∃o:Obj,A.heap[r]? =some o/\o.isCells=false):iB N M Q w y outs v r A':=by
 have hr2:=fun r e=>(hr r e).2;obtain⟨h1,h2,h3,h4,h5,h6,h7⟩:=h;exact⟨h1.own hg hr2,h2.own hg hr2,h3.own hg hr2,h4.own hg hr2,h5.own hg hr2,dt h6 hg hr hN hB,h7⟩
theorem sM {N M Q:Nat}{s:Sp}{w:World}{L:List Sp}{B:Nat}(hN:N<=w.heap.size)(hB:N<=B):OwnFrom B (xI N M Q w s L):=fun _ _ _ _ ⟨y,outs,v,h,r⟩ hg hr=>⟨y,outs,v,kB hN hB h hg hr,r⟩
theorem sN {N M Q:Nat}{s:Sp}{w:World}{L:List Sp}{B:Nat}(hN:N<=w.heap.size)(hB:N<=B)(c:Code):OwnFrom B (xJ N M Q w s L c):=fun _ _ _ _ ⟨y,outs,v,h,r⟩ hg hr=>⟨y,outs,v,kB hN hB h hg hr,r⟩
theorem fS {N M Q:Nat}{w:World}{y:Sp}{outs:List Sp}{v:Value}{r:Nat}{W:World}(h:iB N M Q w y outs v r W)(hN:N<=W.heap.size)(o:Obj):iB N M Q w y outs v r (W.alloc o):=by
 obtain⟨h1,h2,h3,h4,h5,h6,h7⟩:=h;exact⟨h1.alloc o,h2.alloc o,h3.alloc o,h4.alloc o,h5.alloc o,h6.alloc hN o,h7⟩
theorem sO {N M Q:Nat}(ak:N<M)(al:M<Q){w:World}{y:Sp}{outs outs':List Sp}{v v':Value}{r:Nat}{W W':World}(h:iB N M Q w y outs v r W)(hg:W.grownBy W' v.ownBlock)(ho:aG W' M v' outs')
  (hb:v'.ownBlock=v.ownBlock\/∃k,v'.ownBlock=some k/\W.heap.size<=k)(hN:N<=w.heap.size) :
  iB N M Q w y outs' v' r (W'.setCell Q v'):=by
 obtain⟨h1,h2,h3,h4,h5,h6,h7,h8⟩:=h;have hne:∀k,k<M\/k=Q\/k=Q+1->v.ownBlock≠some k:=fun k hk e=>by have:=(h5.lt k e).1;have:=h7 k e;omega
 have fl:∀b,v'.ownBlock=some b->b<Q\/Q+2<=b:=by
  intro b e
  rcases hb with hb | ⟨k,hb,hk⟩
  ·rw[hb]at e;exact h7 b e
  rw[hb]at e;cases e;have:=h4.lt;omega
 have ea:v'.ownBlock≠some Q:=fun e=>by have:=fl Q e;omega
 refine⟨(h1.grown hg (hne _ (by omega))).ob _ (by omega),(h2.grown hg (hne _ (by omega))).ob _ (by omega),(h3.grown hg (hne _ (by omega))).set _,(h4.grown hg (hne _ (by omega))).ob _ (by omega),ho.setCell _ _ _ ea,?_,fl,h8⟩;refine(h6.trans (aM hg ?_ (fun k e=> ?_))).setCell (p:=⟨Q,0,none⟩) (by show N<=Q;omega) _
 ·have:=h6.size;omega
 have:=(h5.lt k e).1;omega
theorem qY {N M Q:Nat}(ak:N<M)(al:M<Q){w:World}{y:Sp}{outs:List Sp}{v:Value}{r:Nat}{W:World}(h:iB N M Q w y outs v r W)(u:Nat):iB N M Q w y outs v u (W.setCell ⟨Q+1,0,none⟩ (u:Int)):=by
 obtain⟨h1,h2,h3,h4,h5,h6,h7,h8⟩:=h;have hne:v.ownBlock≠some (Q+1):=fun e=>by have:=h7 _ e;omega
 exact⟨h1.ob _ (by omega),h2.ob _ (by omega),h3.ob _ (by omega),h4.set _,h5.setCell _ _ _ hne,h6.setCell (p:=⟨Q+1,0,none⟩) (by show N<=Q+1;omega) _,h7,h8⟩
theorem mF {N M Q:Nat}(ak:N<M)(al:M<Q){w:World}{y:Sp}{outs:List Sp}{v:Value}{r:Nat}{W:World}(h:iB N M Q w y outs v r W)(z:Sp)(hz:z.1<z.2):iB N M Q w z outs v r ((W.setCell N z.1).setCell ⟨N,1,none⟩ z.2):=by
 obtain⟨h1,h2,h3,h4,h5,h6,h7,h8⟩:=h;have hne:v.ownBlock≠some N:=fun e=>by have:=(h5.lt _ e).1;omega
 exact⟨(h1.set _).other _ _ (by simp),(h2.other _ _ (by simp)).set _,(h3.ob _ (by omega)).ob _ (by omega),(h4.ob _ (by omega)).ob _ (by omega),(h5.setCell _ _ _ hne).setCell _ _ _ hne,(h6.setCell (p:=⟨N,0,none⟩) (Nat.le_refl _) _).setCell (p:=⟨N,1,none⟩) (Nat.le_refl _) _,h7,hz⟩
theorem lJ {N M Q:Nat}{w:World}{y:Sp}{outs:List Sp}{v:Value}{r:Nat}{W:World}(h:iB N M Q w y outs v r W):iB N M Q w y outs v r W.drew:=by
 obtain⟨h1,h2,h3,h4,h5,h6,h7⟩:=h;exact⟨h1,h2,h3,h4,h5,h6.drew,h7⟩
theorem SpAt.drop {w:World}{n₀:Nat}{a:Option Addr}{L:List Sp}(h:SpAt w n₀ a L){cap:Nat}(hcap:L.length<=cap)(k:Nat):SpAt w n₀ (if cap=k then a else Option.map (fun x=>x.add (k*2)) a) (L.drop k):=by
 refine⟨by rw[List.length_drop];have:=h.small;omega,fun hl=> ?_⟩;rw[List.length_drop]at hl;obtain⟨b,off,rfl,hb,hc⟩:=h.cells (by omega);rw[if_neg (by omega),Option.map_some,Addr.add_lit];refine⟨b,off+k*2,rfl,hb,fun i hi=> ?_⟩;rw[List.length_drop]at hi;obtain⟨c0,c1⟩:=hc (k+i) (by omega);rw[List.getElem_drop,show off+k*2+i*2=off+(k+i)*2 by omega];exact⟨c0,c1⟩
theorem iV (w:World)(base n₀:Nat)(v:Value)(L:List Sp)(a:Option Addr)(cap:Nat)(ps:List Sp)(hv:aG w base v L)(hL:L.length<=2199023255552)(hbase:base<=w.heap.size)
  (hc:SpAt w n₀ a ps)(hn:n₀<=w.heap.size)(hne:0<ps.length->∀ad,a=some ad->v.ownBlock≠some ad.block)(n:Nat)(hnl:n=ps.length) :
  Calls Tryz.prog 228 #[v,.slice a n cap] w fun e w'=>∃v',e= .returned v'/\aG w' base v' (L++aw ps)/\w.grownBy w' v.ownBlock/\(v'.ownBlock=v.ownBlock\/∃k,v'.ownBlock=some k/\w.heap.size<=k):=by
 subst hnl;exact iS w base n₀ v L a cap ps hv hL hbase hc hn hne
theorem sP {W:World}(a b:Int){n₀:Nat}(h:W.heap.size+1<=n₀):SpAt (W.alloc (.cells #[a,b] 92)) n₀ (some ⟨W.heap.size,0,none⟩) [(a,b)] :=
 ⟨by simp,fun _=>⟨W.heap.size,0,rfl,by omega,fun i hi=>by
  obtain rfl:i=0:=(by simpa using hi)
  simp⟩⟩
theorem mz {n₀:Nat}{w a b:World}(hn:n₀<=w.heap.size)(h:Below w.heap.size w a)(k:Below w.heap.size w b)(hs:a.heap.size<=b.heap.size):Below n₀ a b :=
 ⟨k.os.trans h.os.symm,k.tape.trans h.tape.symm,k.output.trans h.output.symm,hs,fun i hi=>(k.block i (by omega)).trans (h.block i (by omega)).symm⟩
set_option maxHeartbeats 1000000 in
theorem uq (w:World) (n₀:Nat) (a:Option Addr) (cap:Nat) (L:List Sp) (s:Sp) (hc:SpAt w n₀ a L) (hn:n₀<=w.heap.size) (hcap:L.length<=cap) :
  Calls Tryz.prog 216 #[.slice a L.length cap,.agg #[s.1,s.2]] w fun e w'=>∃v,e= .returned v/\aG w' w.heap.size v (eN L s)/\Below w.heap.size w w':=by
 obtain⟨s1,s2⟩:=s;have hb:=(((Below.refl w.heap.size w).alloc (Nat.le_refl _) (.cells #[s1,s2] 92)).alloc (by simp) (.cells #[.slice a L.length cap] 224)).alloc (by simp;omega) (.cells #[.slice a L.length cap] 224);have HB:=hid hb;have HS:=hid (hc.below (hb.mono hn));have hsm:=hc.small;clear hb hc;refine(callsIn_wide (n:=4)).1 ?_;refine callsIn_of_wp_marks Tryz.func216 rfl trivial ?_ rfl;simp only[Tryz.ntmps216,List.size_toArray,List.length_cons,List.length_nil,Nat.reduceAdd,Nat.reduceSub,Array.replicate_succ,Array.replicate_zero,List.push_toArray,List.append_toArray,List.nil_append,List.cons_append];refine wpIn_wide.2 ?_;go_wp2_with fail
 go_step3
 go_wp2_with fail;refine(ly _ _ _ _ _ rfl).mono ?_;rintro e w1⟨rfl,rfl⟩;go_wp2_with fail;refine(lF _ n₀ a cap L (s1,s2) HS.o (by have:=HB.size;omega)).mono ?_;rintro e w2⟨rfl,hb2⟩;have fn:At w.heap.size 0 s1 w2:=((((At.new (W:=w) (vs:= #[s1,s2]) 92 rfl rfl).alloc _).alloc _).below hb2 (by simp;omega));have fp:At w.heap.size 1 s2 w2:=((((At.new (W:=w) (vs:= #[s1,s2]) 92 rfl rfl).alloc _).alloc _).below hb2 (by simp;omega));have hz:At (w.heap.size+1+1) 0 (.slice a L.length cap) w2:=((At.new (W:=(w.alloc (.cells #[s1,s2] 92)).alloc (.cells #[.slice a L.length cap] 224)) (vs:= #[.slice a L.length cap]) 224 (by simp) rfl).below hb2 (by simp));have fr:=hid (HS.below (hb2.mono (by have:=HB.size;omega)));have b6:=hid (HB.trans (hb2.mono HB.size));have hsz:=hb2.size
 simp at hsz
 clear hb2 HB HS
 cases htk:cV L (s1,s2)with
 | false =>
  go_wp2_with fail;rw[Exit.noGoto_ret];refine ez rfl ⟨_,rfl,?_,b6.o⟩;unfold eN;rw[htk];exact aG.nil _ _
 | true =>
  obtain⟨i0,hi,hz0,hz1,hz2⟩:=info_parts gC;have kq:¬9223372036854775807<L.length+1:=by omega
  go_wp2_with (first | (at_make;refine wpList_make_own _ rfl _ _ _ rfl w2.heap.size 92 i0 _ 2 Tryz.underlying41 hi hz0 hz1 _ _ _ (L.length+1) rfl rfl (by omega) (by rw[hz2];omega) (by unfold maxLen;omega) (Nat.le_refl _) ?_))
  intro w3 hown3 hgr3;have eb:=World.ownsRow.lt hown3 w2.heap.size rfl;have aa:aG w3 w2.heap.size (.slice (some ⟨w2.heap.size,0,none⟩) 0 (L.length+1)) []:=hown3;have hs3:=hgr3.size;have bo:=fn.grown hgr3 (by simp);have bu:=fp.grown hgr3 (by simp);have hz':=hz.grown hgr3 (by simp);have bv:=hid (fr.grown hgr3 (by omega) (by simp));have av:=hid (b6.trans (aM hgr3 (by omega) (fun k e=>by cases e)));have hH:=hid aa;clear hown3 aa hgr3 fr b6 fn fp hz;have q1:=((hz'.alloc (.cells #[.slice (some ⟨w2.heap.size,0,none⟩) 0 (L.length+1)] 41)).alloc (.cells #[(L.length:Int)] 3)).1;have da:=hid bo;have dc:=hid bu;clear bo bu hz';go_wp2_with fail
  go_step3
  go_wp2_with fail;have ak:w.heap.size<w2.heap.size:=by omega
  have al:w2.heap.size<w3.heap.size:=by omega
  refine(wpIn_wide (n:=4)).1 ?_
  refine lx (n₀:=n₀) (by omega) rfl rfl (bv.below (((Below.refl n₀ w3).alloc (by omega) _).alloc (by simp;omega) _)) (by simp;omega)
   (xI w.heap.size w2.heap.size w3.heap.size w (s1,s2) L) (xJ w.heap.size w2.heap.size w3.heap.size w (s1,s2) L) (sM (Nat.le_refl _) (by simp;omega)) (sN (Nat.le_refl _) (by simp;omega)) ?start ?round ?done ?stop
  case start =>
   refine⟨(s1,s2),[],_,⟨(da.alloc _).alloc _,(dc.alloc _).alloc _,(At.new _ rfl rfl).alloc _,At.new _ (by simp) rfl,(hH.alloc _).alloc _,(av.alloc (by omega) _).alloc (by simp;omega) _,fun b e=>by cases e;exact .inl eb.2,(bY.1 htk).2.2.1⟩,Nat.zero_le _,rfl⟩
  case round =>
   rintro l k hk W hl⟨⟨y1,y2⟩,outs,v,hC,hlen,hadd⟩;have kv:w3.heap.size+1<W.heap.size:=hC.2.2.2.1.lt;have HV:=hid (hC.2.2.2.2.1.lt);have b8:=hid hC.2.2.2.2.2.2.1;have hy:y1<y2:=hC.2.2.2.2.2.2.2;have HI:=hid hC;have HG:=hid hadd;have HD:=hid (qX (s:=(y1,y2)) hk);obtain⟨va,vc,rfl,-⟩:=hC.2.2.2.2.1.at (by omega);clear hC hadd q1 da dc
   gi_wp2
   refine⟨(KeepsOthers.alloc _ _).from _,(Below.refl n₀ W).alloc (by omega) _,fun _ W2=>iB w.heap.size w2.heap.size w3.heap.size w (y1,y2) outs (.slice va outs.length vc) L.length W2/\At W.heap.size 0 L[k].1 W2/\At W.heap.size 1 L[k].2 W2,?_,⟨fS HI.o (by omega) _,At.new _ rfl rfl,At.new _ rfl rfl⟩,?_⟩
   ·intro _ A A' row h hg hr;exact⟨kB (B:=_) (Nat.le_refl _) (by first | omega | (simp;omega)) h.1 hg hr,h.2.1.own hg (fun r e=>(hr r e).2),h.2.2.own hg (fun r e=>(hr r e).2)⟩
   rintro W2⟨hC,⟨x0,f0⟩,⟨x1,f1⟩⟩;obtain⟨⟨d0,e0⟩,⟨d1,e1⟩,⟨d2,e2⟩,⟨d3,e3⟩,-⟩:=id hC;have HC:=hid hC;have dk:=dz (bY.1 htk).1 hk;clear HI hC;by_cases c1:L[k].2<y1
   ·have hll:outs.length<=4398046511104:=by omega
    gi_wp2_with (first | (gi_at_builtin;refine dW _ rfl _ _ rfl w2.heap.size _ _ rfl (HC.2.2.2.2.1.alloc _) hll W2.heap.size L[k] rfl (by simp) (by simp) (by have:=HC.2.2.1.lt;simp;omega) ?_))
    intro v' W3 ho hg hbl;obtain⟨kx,l0,hv',-⟩:=ho.at (by rw[List.length_append];simp;omega);have dl:=fS HC.o (by have:=HC.1.lt;omega) (.cells #[L[k].1,L[k].2] 92);have fs:=sO ak al dl hg ho (by simpa using hbl) (Nat.le_refl _);have hne:(Value.slice va outs.length vc).ownBlock≠some w3.heap.size:=fun e=>by have:=b8.o _ e;omega
    obtain⟨z0,g0⟩:=dl.2.2.1.grown hg hne;have hk3:=((KeepsOthers.alloc W2 (.cells #[L[k].1,L[k].2] 92)).trans (cQ dl.2.2.2.2.1 hg));have hb3:Below n₀ W2 W3:=((Below.refl n₀ W2).alloc (by have:=HC.1.lt;omega) _).trans (aM hg (by have:=HC.1.lt;simp;omega) (fun b e=>by have:=HV.o _ e;omega));have hI:=hid hk3;have av:=hid hb3;have hJ:=hid fs;have hlen':(outs++[L[k]]).length<=k+1:=by rw[List.length_append];simp;omega
    have hK:=hid hlen';clear fs hk3 hb3 hg hne HC HV d0 d1 d2 d3 e0 e1 e2 e3 x0 x1 f0 f1 ho dl hbl hlen';generalize (outs++[L[k]]).length=nl at hv';subst hv'
    gi_wp2_with fail
    refine⟨(hI.trans (KeepsOthers.setCell _ _ _)).from _,av.setCell (p:=⟨w3.heap.size,0,none⟩) (by show n₀<=w3.heap.size;omega) _,_,_,_,hJ.o,hK.out,?_⟩;rw[HG.o,HD.o,if_pos c1,List.append_assoc];rfl
   have a1:=hid (Int.not_lt.1 c1);by_cases c2:y2<L[k].1
   ·gi_wp2_with fail
    exact⟨(KeepsOthers.setCell _ _ _).from _,_,outs,_,qY ak al HC.o k,hlen,by rw[HG.o,HD.o,if_neg (Int.not_lt.2 a1.o),if_pos c2,List.drop_eq_getElem_cons hk],rfl⟩
   have dn:=hid (Int.not_lt.1 c2);by_cases c3:L[k].1<y1
   ·by_cases c4:y2<L[k].2
    ·have HP:=hid (show(min y1 L[k].1,max y2 L[k].2)=(L[k].1,L[k].2)from Prod.ext (by dsimp only;omega) (by dsimp only;omega))
     gi_wp2_with fail
     exact⟨((KeepsOthers.setCell _ _ _).trans (KeepsOthers.setCell _ _ _)).from _,((Below.refl n₀ W2).setCell (p:=⟨w.heap.size,0,none⟩) (by show n₀<=w.heap.size;omega) _).setCell (p:=⟨w.heap.size,1,none⟩) (by show n₀<=w.heap.size;omega) _,(L[k].1,L[k].2),outs,_,mF ak al HC.o (L[k].1,L[k].2) (by dsimp only;omega),by omega,by rw[HG.o,HD.o,if_neg (Int.not_lt.2 a1.o),if_neg (Int.not_lt.2 dn.o)];rw[HP.o]⟩
    have HP:=hid (show(min y1 L[k].1,max y2 L[k].2)=(L[k].1,y2)from Prod.ext (by dsimp only;omega) (by dsimp only;omega))
    gi_wp2_with fail
    exact⟨((KeepsOthers.setCell _ _ _).trans (KeepsOthers.setCell _ _ _)).from _,((Below.refl n₀ W2).setCell (p:=⟨w.heap.size,0,none⟩) (by show n₀<=w.heap.size;omega) _).setCell (p:=⟨w.heap.size,1,none⟩) (by show n₀<=w.heap.size;omega) _,(L[k].1,y2),outs,_,mF ak al HC.o (L[k].1,y2) (by dsimp only;omega),by omega,by rw[HG.o,HD.o,if_neg (Int.not_lt.2 a1.o),if_neg (Int.not_lt.2 dn.o)];rw[HP.o]⟩
   by_cases c4:y2<L[k].2
   ·have HP:=hid (show(min y1 L[k].1,max y2 L[k].2)=(y1,L[k].2)from Prod.ext (by dsimp only;omega) (by dsimp only;omega))
    gi_wp2_with fail
    exact⟨((KeepsOthers.setCell _ _ _).trans (KeepsOthers.setCell _ _ _)).from _,((Below.refl n₀ W2).setCell (p:=⟨w.heap.size,0,none⟩) (by show n₀<=w.heap.size;omega) _).setCell (p:=⟨w.heap.size,1,none⟩) (by show n₀<=w.heap.size;omega) _,(y1,L[k].2),outs,_,mF ak al HC.o (y1,L[k].2) (by dsimp only;omega),by omega,by rw[HG.o,HD.o,if_neg (Int.not_lt.2 a1.o),if_neg (Int.not_lt.2 dn.o)];rw[HP.o]⟩
   have HP:=hid (show(min y1 L[k].1,max y2 L[k].2)=(y1,y2)from Prod.ext (by dsimp only;omega) (by dsimp only;omega))
   gi_wp2_with fail
   exact⟨((KeepsOthers.setCell _ _ _).trans (KeepsOthers.setCell _ _ _)).from _,((Below.refl n₀ W2).setCell (p:=⟨w.heap.size,0,none⟩) (by show n₀<=w.heap.size;omega) _).setCell (p:=⟨w.heap.size,1,none⟩) (by show n₀<=w.heap.size;omega) _,(y1,y2),outs,_,mF ak al HC.o (y1,y2) (by dsimp only;omega),by omega,by rw[HG.o,HD.o,if_neg (Int.not_lt.2 a1.o),if_neg (Int.not_lt.2 dn.o)];rw[HP.o]⟩
  case done =>
   rintro D W hD⟨⟨y1,y2⟩,outs,v,hC,hlen,hadd⟩ hDf;rw[List.drop_length]at hadd;have ec:w.heap.size<=D:=by simp at hD;omega
   obtain⟨va,vc,rfl,-⟩:=hC.2.2.2.2.1.at (by omega);obtain⟨⟨d0,-⟩,⟨d1,-⟩,⟨d2,-⟩,⟨d3,-⟩,-⟩:=id hC;have hy:y1<y2:=hC.2.2.2.2.2.2.2;have HC:=hid hC;have HG:=hid hadd;have eg:=hid hDf;have hW2:w3.heap.size+1<W.heap.size:=hC.2.2.2.1.lt;have hr:L.length<=L.length:=by omega
   have hr2:L.length<=cap:=by omega
   clear hC hadd hDf hD q1 da dc;go_wp2_with fail;refine wp_mono (Q:=fP _) ?_ (hU _);refine bC (fun w':World=>w'.cell? w3.heap.size=some (.slice va outs.length vc)/\w'.cell? w.heap.size=some (y1:Y)/\w'.cell? ⟨w.heap.size,1,none⟩=some (y2:Y)/\w'.cell? ⟨w3.heap.size+1,0,none⟩=some ((L.length:Int):Y)) (⟨d2,d0,d1,d3⟩) fun hZ=>?_;refine aB 0 1 4 5 ?_;refine aO 6 ?_;have bx:=hid (lJ HC.o);have aF:=hid (fS bx.o (by show w.heap.size<=W.heap.size;omega) (.cells #[y1,y2] 92));refine aX 2 fun Kq hKq=> ?_;go_simp;refine hKq.out _ _ (⟨aF.2.2.1.1,aF.1.1,aF.2.1.1,aF.2.2.2.1.1⟩) ?_;clear hKq Kq hZ;refine fun hZ=>aT ?_;refine aX 3 fun Kq hKq=> ?_;go_simp;refine(iV (W.drew.alloc (.cells #[y1,y2] 92)) w2.heap.size (W.heap.size+1) (.slice va outs.length vc) outs _ _ [(y1,y2)] aF.2.2.2.2.1 (by omega) (by simp;omega) (sP (W:=W.drew) _ _ (Nat.le_refl _)) (by simp) (by intro _ ad e;cases e;exact fun e=>by have:=(bx.2.2.2.2.1.lt _ e).2;simp at this) 1 rfl).mono ?_;rintro e W5⟨v1,rfl,ho1,hg1,hbl1⟩;rw[fA,one,if_pos hy]at ho1;have hne:∀b,b<w2.heap.size\/b=w3.heap.size\/b=w3.heap.size+1->(Value.slice va outs.length vc).ownBlock≠some b:=fun b hb e=>by have:=(HC.2.2.2.2.1.lt _ e).1;have:=HC.2.2.2.2.2.2.1 _ e;omega
   have z0:=aF.1.grown hg1 (hne _ (by omega));have z1:=aF.2.1.grown hg1 (hne _ (by omega));have z2:=aF.2.2.1.grown hg1 (hne _ (by omega));have z3:=aF.2.2.2.1.grown hg1 (hne _ (by omega));have cC:=((KeepsOthers.drew W).trans ((KeepsOthers.alloc _ _).trans (cQ aF.2.2.2.2.1 hg1))).same D _ eg.o rfl;have cF:Below w.heap.size w W5:=aF.2.2.2.2.2.1.trans (aM hg1 (by simp;omega) (fun b e=>by have:=(HC.2.2.2.2.1.lt _ e).1;omega));have hs5:W.heap.size<=W5.heap.size:=by have:=hg1.size;simp at this;omega
   have ei:=hid cC;have cL:=hid cF;have ab:=hid ho1;have ac:∀b,b<w2.heap.size\/b=w3.heap.size\/b=w3.heap.size+1->v1.ownBlock≠some b:=fun b hb e=>by { have h1:=(ho1.lt _ e).1;rcases hbl1 with h | ⟨j,h,hj⟩;(rw[h]at e;exact hne b hb e);(rw[h]at e;cases e;simp at hj;omega) }
   have HZ:=hid (show _/\_/\_/\_ from⟨z0,z1,z2,z3⟩);have a1:=hid ac;clear cC cF ho1 hg1 hne hbl1 ac;go_simp;refine hKq.out _ _ (⟨z2.1,z0.1,z1.1,z3.1⟩) ?_;clear hKq Kq hZ;refine fun hZ=>aT ?_;clear z0 z1 z2 z3;refine aX 7 fun Kq hKq=> ?_;go_simp;refine(iV W5 w2.heap.size n₀ v1 (outs++[(y1,y2)]) _ _ (L.drop L.length) ab.o (by rw[List.length_append];simp;omega) (by omega) (((bv.drop hcap L.length).below (mz hn av.o cL.o (by omega)))) (by omega) (by intro hp ad e;obtain⟨b,off,e2,hb,-⟩:=(bv.drop hcap L.length).cells hp;rw[e2]at e;cases e;exact fun e=>by have:=(ab.lt _ e).1;simp at this;omega) _ (by simp)).mono ?_;rintro e W6⟨v2,rfl,ho2,hg2,-⟩;have hne:∀b,b<w2.heap.size->v1.ownBlock≠some b:=fun b hb e=>by have:=(ab.lt _ e).1;omega
   have cM:=(cQ ab.o hg2).same D _ ei.o rfl;have ax:Below w.heap.size w W6:=cL.trans (aM hg2 (by omega) (fun b e=>by have:=(ab.lt _ e).1;omega));obtain⟨z0,z1,z2,z3⟩:=HZ.o;replace z0:=z0.grown hg2 (a1.o _ (by omega));replace z1:=z1.grown hg2 (a1.o _ (by omega));replace z2:=z2.grown hg2 (a1.o _ (by omega));replace z3:=z3.grown hg2 (a1.o _ (by omega));have cS:=hid cM;have el:=hid ax;have em:=hid ho2;clear cM ax ho2 hne hg2;go_simp;refine hKq.out _ _ (⟨z2.1,z0.1,z1.1,z3.1⟩) ?_;clear hKq Kq hZ;refine fun hZ=>aT ?_;clear z0 z1 z2 z3;refine aO 8 ?_;refine az ?_ _;simp only[fP];go_wp2_with fail
   all_goals
    refine dK rfl cS.o ⟨_,rfl,?_,cj el.o (Nat.le_refl _) ec⟩;unfold eN;rw[if_pos htk,HG.o];have:=em.o;rw[List.drop_length,show aw ([]:List Sp)=[]from rfl,List.append_nil]at this;exact(this.own (grownBy_putObj' W6 D _) (fun r e=>by cases e;exact⟨_,cS.o,rfl⟩)).mono (by omega)
  case stop =>
   rintro D c k W hD hk⟨⟨y1,y2⟩,outs,v,hC,hlen,hadd,rfl⟩ hDf;have ec:w.heap.size<=D:=by simp at hD;omega
   obtain⟨va,vc,rfl,-⟩:=hC.2.2.2.2.1.at (by omega);obtain⟨⟨d0,-⟩,⟨d1,-⟩,⟨d2,-⟩,⟨d3,-⟩,-⟩:=id hC;have hy:y1<y2:=hC.2.2.2.2.2.2.2;have HC:=hid hC;have HG:=hid hadd;have eg:=hid hDf;have hW2:w3.heap.size+1<W.heap.size:=hC.2.2.2.1.lt;have hr:k<=L.length:=by omega
   have hr2:k<=cap:=by omega
   clear hC hadd hDf hD q1 da dc;refine wpIn_wide.2 ?_;go_wp2_with fail;refine wp_mono (Q:=fP _) ?_ (hU _);refine bC (fun w':World=>w'.cell? w3.heap.size=some (.slice va outs.length vc)/\w'.cell? w.heap.size=some (y1:Y)/\w'.cell? ⟨w.heap.size,1,none⟩=some (y2:Y)/\w'.cell? ⟨w3.heap.size+1,0,none⟩=some ((k:Int):Y)) (⟨d2,d0,d1,d3⟩) fun hZ=>?_;refine aB 0 1 4 5 ?_;refine aO 6 ?_;have bx:=hid (lJ HC.o);have aF:=hid (fS bx.o (by show w.heap.size<=W.heap.size;omega) (.cells #[y1,y2] 92));refine aX 2 fun Kq hKq=> ?_;go_simp;refine hKq.out _ _ (⟨aF.2.2.1.1,aF.1.1,aF.2.1.1,aF.2.2.2.1.1⟩) ?_;clear hKq Kq hZ;refine fun hZ=>aT ?_;refine aX 3 fun Kq hKq=> ?_;go_simp;refine(iV (W.drew.alloc (.cells #[y1,y2] 92)) w2.heap.size (W.heap.size+1) (.slice va outs.length vc) outs _ _ [(y1,y2)] aF.2.2.2.2.1 (by omega) (by simp;omega) (sP (W:=W.drew) _ _ (Nat.le_refl _)) (by simp) (by intro _ ad e;cases e;exact fun e=>by have:=(bx.2.2.2.2.1.lt _ e).2;simp at this) 1 rfl).mono ?_;rintro e W5⟨v1,rfl,ho1,hg1,hbl1⟩;rw[fA,one,if_pos hy]at ho1;have hne:∀b,b<w2.heap.size\/b=w3.heap.size\/b=w3.heap.size+1->(Value.slice va outs.length vc).ownBlock≠some b:=fun b hb e=>by have:=(HC.2.2.2.2.1.lt _ e).1;have:=HC.2.2.2.2.2.2.1 _ e;omega
   have z0:=aF.1.grown hg1 (hne _ (by omega));have z1:=aF.2.1.grown hg1 (hne _ (by omega));have z2:=aF.2.2.1.grown hg1 (hne _ (by omega));have z3:=aF.2.2.2.1.grown hg1 (hne _ (by omega));have cC:=((KeepsOthers.drew W).trans ((KeepsOthers.alloc _ _).trans (cQ aF.2.2.2.2.1 hg1))).same D _ eg.o rfl;have cF:Below w.heap.size w W5:=aF.2.2.2.2.2.1.trans (aM hg1 (by simp;omega) (fun b e=>by have:=(HC.2.2.2.2.1.lt _ e).1;omega));have hs5:W.heap.size<=W5.heap.size:=by have:=hg1.size;simp at this;omega
   have ei:=hid cC;have cL:=hid cF;have ab:=hid ho1;have ac:∀b,b<w2.heap.size\/b=w3.heap.size\/b=w3.heap.size+1->v1.ownBlock≠some b:=fun b hb e=>by { have h1:=(ho1.lt _ e).1;rcases hbl1 with h | ⟨j,h,hj⟩;(rw[h]at e;exact hne b hb e);(rw[h]at e;cases e;simp at hj;omega) }
   have HZ:=hid (show _/\_/\_/\_ from⟨z0,z1,z2,z3⟩);have a1:=hid ac;clear cC cF ho1 hg1 hne hbl1 ac;go_simp;refine hKq.out _ _ (⟨z2.1,z0.1,z1.1,z3.1⟩) ?_;clear hKq Kq hZ;refine fun hZ=>aT ?_;clear z0 z1 z2 z3;refine aX 7 fun Kq hKq=> ?_;go_simp;refine(iV W5 w2.heap.size n₀ v1 (outs++[(y1,y2)]) _ _ (L.drop k) ab.o (by rw[List.length_append];simp;omega) (by omega) (((bv.drop hcap k).below (mz hn av.o cL.o (by omega)))) (by omega) (by intro hp ad e;obtain⟨b,off,e2,hb,-⟩:=(bv.drop hcap k).cells hp;rw[e2]at e;cases e;exact fun e=>by have:=(ab.lt _ e).1;simp at this;omega) _ (by simp)).mono ?_;rintro e W6⟨v2,rfl,ho2,hg2,-⟩;have hne:∀b,b<w2.heap.size->v1.ownBlock≠some b:=fun b hb e=>by have:=(ab.lt _ e).1;omega
   have cM:=(cQ ab.o hg2).same D _ ei.o rfl;have ax:Below w.heap.size w W6:=cL.trans (aM hg2 (by omega) (fun b e=>by have:=(ab.lt _ e).1;omega));obtain⟨z0,z1,z2,z3⟩:=HZ.o;replace z0:=z0.grown hg2 (a1.o _ (by omega));replace z1:=z1.grown hg2 (a1.o _ (by omega));replace z2:=z2.grown hg2 (a1.o _ (by omega));replace z3:=z3.grown hg2 (a1.o _ (by omega));have cS:=hid cM;have el:=hid ax;have em:=hid ho2;clear cM ax ho2 hne hg2;go_simp;refine hKq.out _ _ (⟨z2.1,z0.1,z1.1,z3.1⟩) ?_;clear hKq Kq hZ;refine fun hZ=>aT ?_;clear z0 z1 z2 z3;refine aO 8 ?_;refine az ?_ _;simp only[fP];go_wp2_with fail
   all_goals
    refine dK rfl cS.o ⟨_,rfl,?_,cj el.o (Nat.le_refl _) ec⟩;unfold eN;rw[if_pos htk,HG.o];have hM:=(mE (bY.1 htk).1 k).choose_spec;have:=em.o;rw[my hM,List.append_assoc]at this;exact(this.own (grownBy_putObj' W6 D _) (fun r e=>by cases e;exact⟨_,cS.o,rfl⟩)).mono (by omega)
end
section
open Go.RowKit Go.Shelf
def gU (R:Nat)(b:Bx)(a:Option Addr)(cap:Nat):Array Value:= #[.slice (some ⟨R,0,none⟩) b.ring.length b.ring.length,b.rd,b.nx,.slice a b.bl.length cap,b.nw]
def pc (B R lb:Nat)(bl:List Sp)(a:Option Addr):Prop:=(∀ad,a=some ad->ad=⟨ad.block,ad.off,none⟩)/\(0<bl.length->∀ad,a=some ad->ad.block≠B/\ad.block≠R/\lb<=ad.block)
structure SpTAt (w:World)(a:Option Addr)(L:List Sp):Prop extends SpAt w w.heap.size a L where
 ty:0<L.length->∀ad,a=some ad->cu w ad.block 92
def a8 (B R lb:Nat)(b:Bx)(w:World):Prop :=
 B≠R/\bK R b.ring w/\∃a cap,w.heap[B]? =some (.cells (gU R b a cap) 156 (0,0))/\SpTAt w a b.bl/\b.bl.length<=cap/\pc B R lb b.bl a
structure Chg2 (B R:Nat)(w w':World):Prop where
 os:w'.os=w.os
 tape:w'.tape=w.tape
 output:w'.output=w.output
 size:w.heap.size<=w'.heap.size
 block:∀k,k<w.heap.size->k≠B->k≠R->w'.heap[k]? =w.heap[k]?
theorem Chg2.refl (B R:Nat)(w:World):Chg2 B R w w:=⟨rfl,rfl,rfl,Nat.le_refl _,fun _ _ _ _=>rfl⟩
theorem Chg2.trans {B R:Nat}{a b c:World}(h:Chg2 B R a b)(k:Chg2 B R b c):Chg2 B R a c :=
 ⟨k.os.trans h.os,k.tape.trans h.tape,k.output.trans h.output,Nat.le_trans h.size k.size,fun i hi hB hR=>(k.block i (Nat.lt_of_lt_of_le hi h.size) hB hR).trans (h.block i hi hB hR)⟩
theorem Chg2.of1 {B R:Nat}{a b:World}(h:Chg B a b):Chg2 B R a b:=⟨h.os,h.tape,h.output,h.size,fun i hi hB _=>h.block i hi hB⟩
theorem Chg2.of2 {B R:Nat}{a b:World}(h:Chg R a b):Chg2 B R a b:=⟨h.os,h.tape,h.output,h.size,fun i hi _ hR=>h.block i hi hR⟩
theorem Chg2.of_below {B R:Nat}{w w':World}(h:Below w.heap.size w w'):Chg2 B R w w':=⟨h.os,h.tape,h.output,h.size,fun k hk _ _=>h.block k hk⟩
theorem Chg2.below {B R N:Nat}{w w':World}(h:Chg2 B R w w')(hB:N<=B)(hR:N<=R)(hs:N<=w.heap.size):Below N w w':=⟨h.os,h.tape,h.output,h.size,fun k hk=>h.block k (by omega) (by omega) (by omega)⟩
theorem a8.lt {B R lb:Nat}{b:Bx}{w:World}(h:a8 B R lb b w):B<w.heap.size/\R<w.heap.size:=by
 obtain⟨_,hr,a,cap,hb,_⟩:=h;exact⟨(Array.getElem?_eq_some_iff.1 hb).1,(Array.getElem?_eq_some_iff.1 hr).1⟩
theorem a8.ats {B R lb:Nat}{b:Bx}{w:World}(h:a8 B R lb b w):∃a cap,At B 0 (.slice (some ⟨R,0,none⟩) b.ring.length b.ring.length) w/\At B 1 b.rd w/\At B 2 b.nx w/\At B 3 (.slice a b.bl.length cap) w/\At B 4 b.nw w/\SpAt w w.heap.size a b.bl/\b.bl.length<=cap/\pc B R lb b.bl a:=by
 obtain⟨_,_,a,cap,hb,h1,h2,h3⟩:=h;have c:∀i v,(gU R b a cap)[i]? =some v->At B i v w:=fun i v hv=>⟨by rw[cell_of_row _ _ _ _ _ _ hb];exact hv,frozen_of_row _ _ _ _ _ hb⟩;exact⟨a,cap,c 0 _ rfl,c 1 _ rfl,c 2 _ rfl,c 3 _ rfl,c 4 _ rfl,h1.toSpAt,h2,h3⟩
theorem a8.typed {B R lb n cap:Nat}{a:Option Addr}{b:Bx}{w:World}(h:a8 B R lb b w)(hc:w.cell? ⟨B,3,none⟩=some (.slice a n cap))(hp:0<b.bl.length)(ad:Addr)(ha:a=some ad):cu w ad.block 92:=by
 obtain⟨_,_,a',cap',hbk,h1,_⟩:=h;have c3:w.cell? ⟨B,3,none⟩=some (.slice a' b.bl.length cap'):=by rw[cell_of_row _ _ _ _ _ _ hbk];rfl
 have e:=hc.symm.trans c3
 injection e with e
 injection e with e1 e2 e3
 exact h1.ty hp ad (e1.symm.trans ha)
theorem a8.below {B R lb:Nat}{b:Bx}{w w':World}(h:a8 B R lb b w)(hb:Below w.heap.size w w'):a8 B R lb b w':=by
 have hl:=h.lt;obtain⟨h0,hr,a,cap,hbk,h1,h2,h3⟩:=h;exact⟨h0,(hb.block R hl.2).trans hr,a,cap,(hb.block B hl.1).trans hbk,⟨(h1.toSpAt.below hb).mono hb.size,fun hp ad e=>(h1.ty hp ad e).of (hb.block _ (h1.ty hp ad e).lt)⟩,h2,h3⟩
theorem a8.alloc {B R lb:Nat}{b:Bx}{w:World}(h:a8 B R lb b w)(o:Obj):a8 B R lb b (w.alloc o):=h.below ((Below.refl _ w).alloc (Nat.le_refl _) o)
theorem a8.drew {B R lb:Nat}{b:Bx}{w:World}(h:a8 B R lb b w):a8 B R lb b w.drew:=h.below (Below.refl _ w).drew
theorem a8.other {B R C lb:Nat}{b:Bx}{w w':World}(h:a8 B R lb b w)(hc:Chg C w w')(hB:C≠B)(hR:C≠R)(hlb:C<lb):a8 B R lb b w':=by
 have hl:=h.lt;obtain⟨h0,hr,a,cap,hbk,h1,h2,h3⟩:=h;refine⟨h0,(hc.block R hl.2 (Ne.symm hR)).trans hr,a,cap,(hc.block B hl.1 (Ne.symm hB)).trans hbk,⟨⟨h1.small,fun hp=> ?_⟩,fun hp ad e=>(h1.ty hp ad e).of (hc.block _ (h1.ty hp ad e).lt (by have:=(h3.2 hp ad e).2.2;omega))⟩,h2,h3⟩;obtain⟨bb,off,ha,hb,hcs⟩:=h1.cells hp;have hne:bb≠C:=by have:=(h3.2 hp _ ha).2.2;dsimp only at this;omega
 have hk:=hc.block bb hb hne;exact⟨bb,off,ha,Nat.lt_of_lt_of_le hb hc.size,fun i hi=>⟨(World.cell?_of_block (a:=⟨bb,_,none⟩) hk).trans (hcs i hi).1,(World.cell?_of_block (a:=⟨bb,_,none⟩) hk).trans (hcs i hi).2⟩⟩
theorem a8.set {B R lb:Nat}{b b':Bx}{w:World}(h:a8 B R lb b w)(i:Nat)(v:Value)(hr:b'.ring=b.ring)(hbl:b'.bl=b.bl)(he:∀a cap,(gU R b a cap).setIfInBounds i v=gU R b' a cap):a8 B R lb b' (w.setCell ⟨B,i,none⟩ v):=by
 have hl:=h.lt;obtain⟨h0,hrg,a,cap,hbk,h1,h2,h3⟩:=h;refine⟨h0,?_,a,cap,?_,?_,by rw[hbl];exact h2,by rw[hbl];exact h3⟩
 ·unfold bK;rw[hr,heap_setCell_other w ⟨B,i,none⟩ R v (Ne.symm h0)];exact hrg
 ·rw[heap_setCell_same _ _ _ _ _ _ hbk,he]
 rw[hbl];refine⟨⟨h1.small,fun hp=> ?_⟩,fun hp ad e=>(h1.ty hp ad e).of (heap_setCell_other _ _ _ _ (h3.2 hp ad e).1)⟩;obtain⟨bb,off,ha,hb,hcs⟩:=h1.cells hp;have hne:=(h3.2 hp _ ha).1;exact⟨bb,off,ha,by simp[World.setCell];exact hb,fun i' hi=>⟨by rw[World.cell?_setCell_other _ _ _ _ (fun e=>hne (congrArg Addr.block e).symm)];exact(hcs i' hi).1,by rw[World.cell?_setCell_other _ _ _ _ (fun e=>hne (congrArg Addr.block e).symm)];exact(hcs i' hi).2⟩⟩
theorem a8.setBl {B R lb:Nat}{b:Bx}{w:World}(h:a8 B R lb b w)(a':Option Addr)(cap':Nat)(L:List Sp)(hs:SpAt w w.heap.size a' L)(hcap:L.length<=cap')(hap:pc B R lb L a')(hty:0<L.length->∀ad,a'=some ad->cu w ad.block 92):a8 B R lb { b with bl:=L } (w.setCell ⟨B,3,none⟩ (.slice a' L.length cap')):=by
 obtain⟨h0,hrg,a,cap,hbk,h1,h2,h3⟩:=h;refine⟨h0,?_,a',cap',?_,?_,hcap,hap⟩
 ·unfold bK;rw[heap_setCell_other w ⟨B,3,none⟩ R _ (Ne.symm h0)];exact hrg
 ·rw[heap_setCell_same _ _ _ _ _ _ hbk];rfl
 refine⟨⟨hs.small,fun hp=> ?_⟩,fun hp ad e=>(hty hp ad e).of (heap_setCell_other _ _ _ _ (hap.2 hp ad e).1)⟩;obtain⟨bb,off,ha,hb,hcs⟩:=hs.cells hp;have hne:=(hap.2 hp _ ha).1;exact⟨bb,off,ha,by simp[World.setCell];exact hb,fun i' hi=>⟨by rw[World.cell?_setCell_other _ _ _ _ (fun e=>hne (congrArg Addr.block e).symm)];exact(hcs i' hi).1,by rw[World.cell?_setCell_other _ _ _ _ (fun e=>hne (congrArg Addr.block e).symm)];exact(hcs i' hi).2⟩⟩
theorem a8.ring {B R lb:Nat}{b:Bx}{rg:List UInt8}{w w':World}(h:a8 B R lb b w)(hlen:rg.length=b.ring.length)(hr:bK R rg w')(hc:Chg R w w'):a8 B R lb { b with ring:=rg } w':=by
 have hl:=h.lt;obtain⟨h0,hrg,a,cap,hbk,h1,h2,h3⟩:=h;refine⟨h0,hr,a,cap,?_,⟨⟨h1.small,fun hp=> ?_⟩,fun hp ad e=>(h1.ty hp ad e).of (hc.block _ (h1.ty hp ad e).lt (h3.2 hp ad e).2.1)⟩,h2,h3⟩
 ·rw[hc.block B hl.1 h0,hbk];unfold gU;dsimp only;rw[hlen]
 obtain⟨bb,off,ha,hb,hcs⟩:=h1.cells hp;have hk:=hc.block bb hb (h3.2 hp _ ha).2.1;exact⟨bb,off,ha,Nat.lt_of_lt_of_le hb hc.size,fun i hi=>⟨(World.cell?_of_block (a:=⟨bb,_,none⟩) hk).trans (hcs i hi).1,(World.cell?_of_block (a:=⟨bb,_,none⟩) hk).trans (hcs i hi).2⟩⟩
theorem mG (B R lb:Nat)(b:Bx)(w:World)(h:a8 B R lb b w)(ok:b.Ok) :
  Calls Tryz.prog 205 #[B] w fun e w'=>e= .returned (b.rd+b.ring.length:Int)/\w'=w.drew:=by
 obtain⟨a,cap,⟨c0,-⟩,⟨c1,-⟩,-⟩:=h.ats;have h1:=ok.rd0;have h2:=ok.small;have h3:=ok.most
 go_enter Tryz.func205,Tryz.ntmps205
 go_wp2
 go_region
 all_goals
  go_wp2
  go_ret;exact⟨rfl,rfl⟩
theorem cH (B R lb:Nat)(b:Bx)(w:World)(h:a8 B R lb b w) :
  Calls Tryz.prog 110 #[B] w fun e w'=>e= .returned b.nx/\w=w':=by
 obtain⟨a,cap,-,-,⟨c2,-⟩,-⟩:=h.ats
 go_enter Tryz.func110,Tryz.ntmps110
 go_wp2
 go_ret;exact⟨rfl,rfl⟩
end
section
set_option maxRecDepth 100000
open Go.RowKit Go.Shelf
theorem oZ {e:Int}{l:List Sp}(h:aH e l=true):(l.length:Int)<=aC l:=by
 induction l generalizing e with
 | nil=>exact Int.le_refl _
 | cons x l ih =>
  rw[aA]at h;have:=ih h.2;show((x::l).length:Int)<=x.2-x.1+aC l;rw[List.length_cons];omega
theorem ur {bl:List Sp}{lo hi:Int}(ht:cV bl (lo,hi)=true){k:Nat}(hk:k<(bj bl (lo,hi)).length) :
  lo<=(bj bl (lo,hi))[k].1/\(bj bl (lo,hi))[k].1<(bj bl (lo,hi))[k].2/\(bj bl (lo,hi))[k].2<=hi:=by
 obtain⟨hc,hm⟩:=cE ht;have h1:=dz hc hk;have m1:=(hm (bj bl (lo,hi))[k].1).1 ⟨_,List.getElem_mem hk,by omega,by omega⟩;have m2:=(hm ((bj bl (lo,hi))[k].2-1)).1 ⟨_,List.getElem_mem hk,by omega,by omega⟩;dsimp only at m1 m2;omega
theorem o7 {rg:List UInt8}{off:Int}{s:List UInt8}{gs:List Sp}{k:Nat}(h:k<gs.length):bZ rg off s (gs.take (k+1))=cc (bZ rg off s (gs.take k)) gs[k].1.toNat (dx s off gs[k]):=by
 unfold bZ;rw[List.take_succ_eq_append_getElem h,List.foldl_append];rfl
theorem qZ {rg:List UInt8}{off:Int}{s:List UInt8}{gs:List Sp}(h1:1<=rg.length)(h:∀g∈gs,(g.2-g.1).toNat<=rg.length):(bZ rg off s gs).length=rg.length:=by
 induction gs generalizing rg with
 | nil=>rfl
 | cons g gs ih =>
  have e:(cc rg g.1.toNat (dx s off g)).length=rg.length:=dp _ _ _ h1 (Nat.le_trans (jR _ _ _) (h g (by simp)));show(bZ (cc rg g.1.toNat (dx s off g)) off s gs).length=_;rw[ih (by omega) (fun x hx=>by rw[e];exact h x (by simp[hx])),e]
theorem At.chg {B R i:Nat}{v:Value}{w w':World}(h:At B i v w)(hc:Chg R w w')(hne:B≠R):At B i v w':=by
 have hb:=hc.block B h.lt hne;exact⟨(World.cell?_of_block (a:=⟨B,i,none⟩) hb).trans h.1,(World.frozen?_of_block (a:=⟨B,i,none⟩) hb).trans h.2⟩
theorem SpAt.chg {w w':World}{n₀ R:Nat}{a:Option Addr}{L:List Sp}(h:SpAt w n₀ a L)(hc:Chg R w w')(hn:n₀<=w.heap.size)(hne:0<L.length->∀ad,a=some ad->ad.block≠R):SpAt w' n₀ a L :=
 ⟨h.small,fun hl=>by
  obtain⟨b,off,ha,hbl,hcs⟩:=h.cells hl;have hb:=hc.block b (by omega) (hne hl _ ha);exact⟨b,off,ha,hbl,fun i hi=>⟨(World.cell?_of_block (a:=⟨b,_,none⟩) hb).trans (hcs i hi).1,(World.cell?_of_block (a:=⟨b,_,none⟩) hb).trans (hcs i hi).2⟩⟩⟩
theorem SpAt.tail {w:World}{n₀ b off:Nat}{x:Sp}{L:List Sp}(h:SpAt w n₀ (some ⟨b,off,none⟩) (x::L)):SpAt w n₀ (some ⟨b,off+2,none⟩) L:=by
 refine⟨by have:=h.small;rw[List.length_cons]at this;omega,fun _=> ?_⟩;obtain⟨b',off',e,hb,hc⟩:=h.cells (by simp)
 cases e
 refine⟨b,off+2,rfl,hb,fun i hi=> ?_⟩;obtain⟨c0,c1⟩:=hc (i+1) (by simpa using hi);rw[show off+2+i*2=off+(i+1)*2 by omega];exact⟨c0,c1⟩
theorem us (s:ByteArray)(off:Int)(g:Sp)(i j:Nat)(hi:g.1-off=i)(hj:g.2-off=j):(s.extract i j).data.toList=dx s.data.toList off g:=by
 unfold dx;rw[ByteArray.data_extract,Array.toList_extract,List.extract_eq_take_drop,hi,show g.2-g.1=(j:Int)-i by omega]
 congr 1
 omega
set_option maxHeartbeats 4000000 in
theorem ut (B R lb:Nat) (b:Bx) (off:Int) (s:ByteArray) (w:World) (h:a8 B R lb b w) (ok:b.Ok) (hlb:lb<=w.heap.size) (hs:s.size<=4611686018427387904) :
  Calls Tryz.prog 204 #[B,off,.string s] w fun e w'=>e= .returned (.tuple #[(b.putN off s.size:Int),(rv off)])/\a8 B R lb (b.put off s.data.toList) w'/\Chg2 B R w w':=by
 by_cases hoff:off<0\/1099511627776<off
 ·have HP:=hid (show b.putN off s.size=0/\rv off=130/\b.put off s.data.toList=b from⟨by unfold Bx.putN;rw[if_pos hoff],by unfold rv;rw[if_pos hoff],by unfold Bx.put;rw[if_pos hoff]⟩);rw[HP.1,HP.2.1,HP.2.2]
  rcases hoff with hoff | hoff
  all_goals
   (try have fv:0<=off:=by omega)
   go_enter Tryz.func204,Tryz.ntmps204
   go_wp2_with fail;exact bodyPost_ret (results_tmp2 rfl _ _ _) rfl ⟨rfl,h,Chg2.refl _ _ _⟩
 have HP:=hid (show b.putN off s.size=(if b.hi off s.size<=b.lo off then 0 else dH (bj b.bl (b.lo off,b.hi off s.size)))/\rv off=0/\b.put off s.data.toList=(if b.hi off s.data.toList.length<=b.lo off then b else b.putP off s.data.toList (b.lo off,b.hi off s.data.toList.length))from⟨by unfold Bx.putN;rw[if_neg hoff],by unfold rv;rw[if_neg hoff],by unfold Bx.put;rw[if_neg hoff]⟩);rw[HP.1,HP.2.1,HP.2.2,show s.data.toList.length=s.size from(Lib.size_eq s).symm];clear HP;obtain⟨hoff1,hoff2⟩:0<=off/\off<=1099511627776:=by omega
 clear hoff;obtain⟨lo,hlo⟩:∃lo,lo=b.lo off:=⟨_,rfl⟩;obtain⟨hi,hhi⟩:∃hi,hi=b.hi off s.size:=⟨_,rfl⟩;rw[<-hlo,<-hhi];unfold Bx.lo at hlo;unfold Bx.hi at hhi;have en:=hid hlo;have ds:=hid hhi;clear hlo hhi;obtain⟨a,cap,⟨c0,-⟩,⟨c1,-⟩,⟨c2,-⟩,⟨c3,-⟩,-⟩:=h.ats;have ag:=hid h;have b9:=hid ok;have k1:=ok.rd0;have k2:=ok.small;have k3:=ok.most;have k4:=ok.one;have k5:=ok.rdnx;have k6:=ok.nxend;have hBl:=h.lt;have cT:off+(s.size:Int)<=9223372036854775807:=by omega
 have cX: -9223372036854775808<=off+(s.size:Int):=by omega
 clear h ok
 go_enter Tryz.func204,Tryz.ntmps204
 go_wp2_with fail;refine wp_mono (Q:=jt (fun a' w'=>a'={ tmps:= #[.pointer (some ⟨B,0,none⟩),.int .i64 off,.string s,undef,undef,undef,.int .i64 0,.int .i64 0,.pointer (some ⟨w.heap.size,0,none⟩),undef,undef,undef,.pointer (some ⟨B,0,none⟩),.bool false,.int .i64 off,.bool (decide (off<0)),.bool (decide (off<0)),.int .i64 off,.bool (decide (1099511627776<off)),.bool (decide (off<0)||decide (1099511627776<off)),.int .i64 off,.pointer (some ⟨B,0,none⟩),.pointer (some ⟨B,0,none⟩),.pointer (some ⟨B,2,none⟩),.int .i64 b.nx,.int .i64 lo,.int .i64 off,.string s,.int .i64 (s.size:Int),.int .i64 (off+(s.size:Int)),.pointer (some ⟨B,0,none⟩),.int .i64 (b.rd+(b.ring.length:Int)),.int .i64 hi,.agg #[.int .i64 lo,.int .i64 hi],undef,undef,undef,undef,undef,undef,undef,undef,undef,undef,undef,undef,undef,undef,undef,undef,undef,undef,undef,undef,undef,undef,undef,undef,undef,undef,undef,undef,undef,undef,undef,undef,undef,undef,undef,undef,undef,undef,undef,undef,undef,undef,undef,undef,undef,undef,undef,undef,undef,undef,undef,undef,undef,undef,undef,undef,undef,undef,undef,undef,undef,undef,undef,undef,undef,undef,undef,undef,undef,undef,undef,undef,undef,undef,undef,undef,undef,undef,undef,undef,undef,undef,undef,undef,undef,undef],defers:=[] }/\a8 B R lb b w'/\At w.heap.size 0 (.int .i64 lo) w'/\At w.heap.size 1 (.int .i64 hi) w'/\Chg2 B R w w'/\w.heap.size+1<=w'.heap.size)) ?_ (jT ?_)
 ·refine bC (fun w':World=>w'.cell? ⟨B,2,none⟩=some (b.nx:Y)) (c2) fun hZ=>?_;refine aB 0 1 2 3 ?_;refine aO 4 ?_;refine aO 5 (v:=.int .i64 lo) ?_ (hy:=by intro w hSw;go_simp;(have:=en.o;split <;> (congr 3;omega)));refine aK 6 7 ?_;refine aO 8 ?_;refine aO 9 (v:=.int .i64 (off+(s.size:Int))) ?_ (hy:=by intro w hSw;go_simp;(first | exact IntWalk.i64_in _ ⟨cX,cT⟩ | rw[IntWalk.i64_in _ ⟨cX,cT⟩]));refine aO 10 ?_;refine wpAnyH_ready (rs:=[11,14]) (by kernel_rfl) (by simp) ?_;refine AllReadyH.cons (by simp only[List.getElem?_toArray,List.getElem?_cons_succ,List.getElem?_cons_zero];rfl) (fun Kq hKq=> ?_) (AllReadyH.cons (by simp only[List.getElem?_toArray,List.getElem?_cons_succ,List.getElem?_cons_zero];rfl) (fun Kq hKq=> ?_) AllReadyH.nil)
  focus
   go_simp;refine(mG B R lb b _ (ag.drew) b9.o).mono ?_;rintro e w1⟨rfl,rfl⟩;go_simp;refine hKq.out _ _ c2 ?_;clear hKq Kq hZ;refine fun hZ=>aT ?_;refine aO 12 (v:=.int .i64 hi) ?_ (hy:=by intro w hSw;go_simp;(have:=ds.o;split <;> (congr 3;omega)));refine aO 13 ?_;refine aX 14 fun Kq hKq=> ?_;go_simp;refine hKq.out _ _ (((Below.refl _ w).alloc (Nat.le_refl _) _ |>.cell (p:=⟨B,2,none⟩) hBl.1).trans c2) ?_;clear hKq Kq hZ;refine fun hZ=>aT ?_
  rotate_left 1
  focus
   go_simp;refine hKq.out _ _ (((Below.refl _ w).alloc (Nat.le_refl _) _ |>.cell (p:=⟨B,2,none⟩) hBl.1).trans c2) ?_;clear hKq Kq hZ;refine fun hZ=>aT ?_;refine aX 11 fun Kq hKq=> ?_;go_simp;refine(mG B R lb b _ ((ag.alloc _).drew) b9.o).mono ?_;rintro e w1⟨rfl,rfl⟩;go_simp;refine hKq.out _ _ (((Below.refl _ w).alloc (Nat.le_refl _) _ |>.cell (p:=⟨B,2,none⟩) hBl.1).trans c2) ?_;clear hKq Kq hZ;refine fun hZ=>aT ?_;refine aO 12 (v:=.int .i64 hi) ?_ (hy:=by intro w hSw;go_simp;(have:=ds.o;split <;> (congr 3;omega)));refine aO 13 ?_
  all_goals
   refine aX 15 fun Kq hKq=> ?_;go_simp;refine hKq.out _ _ (((Below.refl _ w).alloc (Nat.le_refl _) _ |>.cell (p:=⟨B,2,none⟩) hBl.1).trans c2) ?_;clear hKq Kq hZ;refine fun hZ=>aT ?_;refine az ?_ _;clear hZ;refine⟨rfl,(ag.alloc _).drew.drew,At.new (W:=w) _ rfl rfl,At.new (W:=w) _ rfl rfl,Chg2.of_below (((Below.refl _ w).alloc (Nat.le_refl _) _).drew.drew),by simp⟩
 rintro a' W1⟨rfl,hx1,hp0,hp1,hch,hsz⟩;clear c0 c1 c2 c3 a cap;obtain⟨a,cap,-,-,-,c3,-,cY,fx,c5⟩:=hx1.ats;have eB:=hid hx1;have er:=hid hch;have eC:=hid hp0;have eL:=hid hp1;have hO:=hid cY;have l3:=hid c5;clear hx1 hch cY c5;obtain⟨p0,-⟩:=hp0;obtain⟨p1,-⟩:=hp1;by_cases hlh:hi<=lo
 ·go_wp2_with fail;exact bodyPost_ret (results_tmp2 rfl _ _ _) rfl ⟨by(try rw[if_pos hlh]);rfl,by(try rw[if_pos hlh]);exact eB.o,er.o⟩
 have htk:cV b.bl (lo,hi)=true:=bY.2 ⟨b9.canon,by have:=en.o;have:=ds.o;dsimp only;omega⟩;have c6:=hid htk;have hP:0<=lo/\off<=lo/\b.rd<=lo:=by have:=en.o;omega
 have hQ:hi<=off+s.size/\hi<=b.rd+b.ring.length:=by have:=ds.o;omega
 clear htk;go_wp2_with fail;refine bC (fun w':World=>w'.cell? ⟨B,3,none⟩=some (.slice a b.bl.length cap)/\w'.cell? w.heap.size=some (.int .i64 lo)/\w'.cell? ⟨w.heap.size,1,none⟩=some (.int .i64 hi)) (⟨c3.1,p0,p1⟩) fun hZ=>?_;refine aB 0 1 2 3 ?_;refine aO 4 ?_;refine aX 5 fun Kq hKq=> ?_;go_simp;refine(mv W1.drew W1.heap.size a cap b.bl (lo,hi) (hO.below (Below.refl _ _).drew) (Nat.le_refl _)).mono ?_;rintro e W2⟨v,rfl,ho,hb2⟩;have hx2:=eB.drew.below hb2;have q0:=eC.below (W':=W2) ((Below.refl _ W1).drew.trans hb2) (show w.heap.size<W1.heap.size by omega);have q1:=eL.below (W':=W2) ((Below.refl _ W1).drew.trans hb2) (show w.heap.size<W1.heap.size by omega);obtain⟨va,vc,hv,hvs,-,hvb⟩:=ho.at (bR (cE c6.o).1);subst hv;have gF:=c3.below (W':=W2) ((Below.refl _ W1).drew.trans hb2) (show B<W1.heap.size by have:=eB.lt;omega);go_simp;refine hKq.out _ _ (⟨gF.1,q0.1,q1.1⟩) ?_;clear hKq Kq hZ;refine fun hZ=>aT ?_;refine aO 6 ?_;refine az ?_ _;clear hZ;have eS:=hid hx2;have c7:=hid q0;have c8:=hid q1;have gN:=hid hvs;have hE:=eB.lt;have ba:=hid (show pc B R lb (bj b.bl (lo,hi)) va from⟨fun ad e=>(hvb ad e).2.2,fun _ ad e=>by have:=(hvb ad e).1;have h2:W1.heap.size<=ad.block:=this;have:=er.size;omega⟩);have aF:=hid (er.trans (Chg2.of_below (B:=B) (R:=R) ((Below.refl _ W1).drew.trans hb2)));have hs2:w.heap.size+1<=W2.heap.size:=Nat.le_trans hsz hb2.size;have hS:W1.heap.size<=W2.heap.size:=hb2.size;have es:=hid (fun k (hk:k<(bj b.bl (lo,hi)).length)=>ur c6.o hk);have gT:=hid (bR (cE c6.o).1);clear hx2 q0 q1 hvs hvb ho c3 gF p0 p1 hb2 hsz;generalize gX:bj b.bl (lo,hi)=gs at es gN ba gT|-;have e4:=hid gX;clear gX;have hgl:=gT.o;go_wp2_with fail
 go_loopw [47] (fun p wr=>∃k:Nat,k<=gs.length/\p= .int .i64 k/\a8 B R lb { b with ring:=bZ b.ring off s.data.toList (gs.take k) } wr/\At w.heap.size 0 (.int .i64 lo) wr/\At w.heap.size 1 (.int .i64 hi) wr/\SpAt wr W2.heap.size va gs/\Chg2 B R w wr/\W2.heap.size<=wr.heap.size) (fun p _=>gs.length-(intOf p).toNat)
 case atStart=>exact⟨0,Nat.zero_le _,rfl,eS.o,c7.o,c8.o,gN.o,aF.o,Nat.le_refl _⟩
 case round =>
  obtain⟨k,hk,rfl,dk,hq0,hq1,hvs,hch,hsw⟩:=hrel;have bI:=hid dk;have c7:=hid hq0;have c8:=hid hq1;have HV:=hid hvs;have g4:=hid hch;by_cases hlt:k<gs.length
  ·obtain⟨vb,vo,g5,hvl,hcs⟩:=hvs.cells (by omega);have eu:=ba.2 (by omega) _ g5;subst g5;obtain⟨g0,g1⟩:=hcs k hlt;obtain⟨b1,b2,b3⟩:=es.o k hlt;obtain⟨qn,g6⟩:=Int.eq_ofNat_of_zero_le (show 0<=gs[k].1 by omega);obtain⟨i,hi1⟩:=Int.eq_ofNat_of_zero_le (show 0<=gs[k].1-off by omega);obtain⟨j,g7⟩:=Int.eq_ofNat_of_zero_le (show 0<=gs[k].2-off by omega);have hT:=hid (o7 (rg:=b.ring) (off:=off) (s:=s.data.toList) hlt);have hV:=hid (us s off gs[k] i j hi1 g7);have hW:=hid (show gs[k].1.toNat=qn by omega);have hfl:(bZ b.ring off s.data.toList (gs.take k)).length=b.ring.length:=qZ k4 (fun g hg=>by obtain⟨x,hx,rfl⟩:=List.mem_iff_getElem.1 (List.mem_of_mem_take hg);have:=es.o x hx;omega);have hij:i<=j:=by omega
   have hjs:j<=s.size:=by omega
   have hjl:j-i<=b.ring.length:=by omega
   have hX:qn<=4611686018427387904:=by omega
   generalize gs[k]=gk at *;obtain⟨l4,am⟩:=gk;dsimp only at g0 g1 b1 b2 b3 g6 hi1 g7;subst g6;have ev:(k:Int)<(gs.length:Int):=by omega
   have l5:w.heap.size<wr.heap.size:=by omega
   clear dk hq0 hq1 hvs hch hcs;go_wp2_with fail;have hx3:=(bI.alloc (.cells #[(qn:Int),am] 92)).drew;have b0:=hid hx3;have z0:At wr.heap.size 0 (qn:Int) (wr.alloc (.cells #[(qn:Int),am] 92)).drew:=At.new (W:=wr) _ rfl rfl;have z1:At wr.heap.size 1 am (wr.alloc (.cells #[(qn:Int),am] 92)).drew:=At.new (W:=wr) _ rfl rfl;clear hx3;refine bC (fun w':World=>w'.cell? wr.heap.size=some ((qn:Int):Y)/\w'.cell? ⟨wr.heap.size,1,none⟩=some (am:Y)) (⟨z0.1,z1.1⟩) fun hZ=>?_;refine aB 0 1 2 3 ?_;refine aK 4 5 ?_;refine aO 6 ?_;refine aO 7 (v:=.int .i64 (i:Int)) ?_ (hy:=by intro w hSw;(obtain⟨y0,y1⟩:=hSw);go_simp;(exact IntWalk.i64_in (i:Int) ⟨by omega,by omega⟩));refine aK 8 9 ?_;refine aO 10 ?_;refine aO 11 (v:=.int .i64 (j:Int)) ?_ (hy:=by intro w hSw;(obtain⟨y0,y1⟩:=hSw);go_simp;(exact IntWalk.i64_in (j:Int) ⟨by omega,by omega⟩));refine aO 12 (v:=.string (s.extract i j)) ?_ (hy:=by intro w hSw;(obtain⟨y0,y1⟩:=hSw);go_simp;(first | done | skip));refine aX 13 fun Kq hKq=> ?_;go_simp;refine(sL B R (bZ b.ring off s.data.toList (gs.take k)) qn (s.extract i j) (wr.alloc (.cells #[(qn:Int),am] 92)).drew (by obtain⟨_,_,h,_⟩:=b0.ats;exact h.1) b0.2.1 b0.1 (by rw[hfl];exact k4) (by rw[hfl];exact k3) (by rw[ByteArray.size_extract,hfl];omega) hX).mono ?_;rintro e W3⟨rfl,hr3,hc3⟩;go_simp;refine hKq.out _ _ (⟨kA hc3 z0.1 (by have:=bI.lt;omega),kA hc3 z1.1 (by have:=bI.lt;omega)⟩) ?_;clear hKq Kq hZ;refine fun hZ=>aT ?_;refine az ?_ _;clear hZ z0 z1;have hal:Chg2 B R wr (wr.alloc (.cells #[(qn:Int),am] 92)).drew:=Chg2.of_below ((Below.refl _ wr).alloc (Nat.le_refl _) _).drew;have bc:=b0.ring (rg:=cc (bZ b.ring off s.data.toList (gs.take k)) qn (s.extract i j).data.toList) (by rw[dp _ _ _ (by rw[hfl];exact k4) (by rw[<-Lib.size_eq,ByteArray.size_extract,hfl];omega)]) hr3 hc3;have c9:w.heap.size≠R:=by omega
   have hbk2:=bI.lt;have y0:=((c7.alloc (.cells #[(qn:Int),am] 92)));have y1:=((c8.alloc (.cells #[(qn:Int),am] 92)))
   have hY:Hid (a8 B R lb { b with ring:=bZ b.ring off s.data.toList (gs.take (k+1)) } W3/\At w.heap.size 0 (.int .i64 lo) W3/\At w.heap.size 1 (.int .i64 hi) W3/\SpAt W3 W2.heap.size (some ⟨vb,vo,none⟩) gs/\Chg2 B R w W3/\W2.heap.size<=W3.heap.size):=by
    refine⟨?_,y0.chg hc3.drew0 c9,y1.chg hc3.drew0 c9,?_,g4.trans (hal.trans (Chg2.of2 hc3)),?_⟩
    ·rw[hT.o,hW.o,<-hV.o];exact bc
    ·refine SpAt.chg (HV.below ((Below.refl _ wr).alloc hsw _)) hc3.drew0 (by simp;omega) (fun _ ad e=>by cases e;exact eu.2.1)
    have:=hc3.size;simp at this;omega
   clear bc y0 y1 hc3 hr3 hal;go_wp2_with fail
   go_roundw
   case rel=>exact⟨k+1,by omega,by go_num,hY.out⟩
   case measure=>simp[intOf];omega
  obtain rfl:k=gs.length:=by omega
  rw[List.take_length]at bI;obtain⟨a2,cap2,-,-,-,n3,n4,ca,cb,-⟩:=bI.ats;obtain⟨h9,hf⟩:=n4;obtain⟨i3,i4⟩:=c7.o;obtain⟨ir,iv⟩:=c8.o;have l6:=bI.lt;have j1:w.heap.size<wr.heap.size:=by omega
  have HN:=hid (bI.set (b':={ b with ring:=bZ b.ring off s.data.toList gs,nw:=lo }) 4 (.int .i64 lo) rfl rfl (fun _ _=>rfl));have j2:=hid (n3.other ⟨B,4,none⟩ (.int .i64 lo) (by simp));have ey:=hid ca;have f2:=hid n3;clear ca n3 dk hq0 hq1 hvs hch;go_wp2_with fail;have bd:=hid (g4.trans (Chg2.of1 (R:=R) (((Chg.refl B wr).setCell 4 (.int .i64 lo)))));have eC:=hid (c7.ob (C:=B) (j:=4) (.int .i64 lo) (by omega));have eL:=hid (c8.ob (C:=B) (j:=4) (.int .i64 lo) (by omega));have j3:=hid (SpAt.chg HV.o ((Chg.refl B wr).setCell 4 (.int .i64 lo)) hsw (fun hp ad e=>(ba.2 hp ad e).1));have hs5:(wr.setCell ⟨B,4,none⟩ (.int .i64 lo)).heap.size=wr.heap.size:=by simp[World.setCell]
  generalize wr.setCell ⟨B,4,none⟩ (.int .i64 lo)=W5 at *;obtain⟨a5,f3,-,-,-,m3,-,g8,g9,l7⟩:=HN.ats;have f4:=hid g8;have l8:=hid m3;obtain⟨j4,l9⟩:=m3;obtain⟨ga,la⟩:=eC.o;obtain⟨gc,lc⟩:=eL.o;dsimp only at j4 g9;clear g8 i3 i4 ir iv h9 hf j2 ey f2 cb;refine bC (fun w':World=>w'.cell? w.heap.size=some (.int .i64 lo)/\w'.cell? ⟨w.heap.size,1,none⟩=some (.int .i64 hi)) (⟨ga,gc⟩) fun hZ=>?_;refine aB 0 1 2 3 ?_;refine aO 5 ?_;refine aX 4 fun Kq hKq=> ?_;go_simp;refine hKq.out _ _ (⟨ga,gc⟩) ?_;clear hKq Kq hZ;refine fun hZ=>aT ?_;refine aX 6 fun Kq hKq=> ?_;go_simp;refine(uq W5.drew W5.heap.size a5 f3 b.bl (lo,hi) (f4.below (Below.refl _ _).drew) (Nat.le_refl _) g9).mono ?_;rintro e W6⟨v,rfl,ho,ax⟩;have a0:Below W5.heap.size W5 W6:=(Below.refl _ W5).drew.trans ax;have r0:=eC.below (W':=W6) a0 (by omega);have r1:=eL.below (W':=W6) a0 (by omega);obtain⟨cf,cg,hv,ch,b4,b5⟩:=ho.at (bR (gR c6.o).1);subst hv;have f5:=HN.below a0;obtain⟨_,_,-,-,-,⟨j5,j6⟩,-⟩:=f5.ats;go_simp;refine hKq.out _ _ (⟨r0.1,r1.1⟩) ?_;clear hKq Kq hZ;refine fun hZ=>aT ?_;refine aK 7 8 ?_;have lg:w.heap.size≠B:=by omega
  refine aX 9 fun Kq hKq=> ?_;go_simp;refine hKq.out _ _ (⟨(r0.ob _ (by omega)).1,(r1.ob _ (by omega)).1⟩) ?_;clear hKq Kq hZ;refine fun hZ=>aT ?_;refine az ?_ _;clear hZ;have be:=hid (f5.setBl cf cg (eN b.bl (lo,hi)) ch b4 ⟨fun ad e=>(b5 ad e).2.2,fun _ ad e=>by have h1:=(b5 ad e).1;have h2:W5.heap.size<=ad.block:=h1;have:=bd.size;omega⟩ (fun _=>ho.ty));have e5:=hid ((bd.trans (Chg2.of_below a0)).trans (Chg2.of1 (R:=R) ((Chg.refl B W6).setCell 3 (.slice cf (eN b.bl (lo,hi)).length cg))));have b8:=hid (SpAt.chg (j3.below (a0.mono (by omega))) ((Chg.refl B W6).setCell 3 (.slice cf (eN b.bl (lo,hi)).length cg)) (by have:=a0.size;omega) (fun hp ad e=>(ba.2 hp ad e).1));have jv:W5.heap.size<=(W6.setCell ⟨B,3,none⟩ (.slice cf (eN b.bl (lo,hi)).length cg)).heap.size:=by simp[World.setCell];exact a0.size
  clear r0 r1 f5 ch b5 j5 j6 ax a0 ho
  obtain⟨x,tl,hal⟩:∃x tl,eN b.bl (lo,hi)=x::tl:=by
   have hm:=(gR c6.o).2 lo
   cases hc:eN b.bl (lo,hi)with
   | nil=>rw[hc]at hm;exact(aY (hm.2 (.inl ⟨Int.le_refl _,by dsimp only;omega⟩))).elim
   | cons x tl=>exact⟨x,tl,rfl⟩
  have gd:=hid hal;rw[hal]at be e5 b8 jv b4|-;clear hal;generalize W6.setCell ⟨B,3,none⟩ (.slice cf (x::tl).length cg)=W7 at *;obtain⟨a7,a6,-,-,⟨f6,lj⟩,⟨cl,ls⟩,-,f7,gg,kS⟩:=be.ats;obtain⟨xb,xo,f8,hxl,gl⟩:=f7.cells (by simp);have a9:=kS.2 (by simp) _ f8;have cn:=be.typed cl (by simp) _ f8;subst f8;obtain⟨x0,x1⟩:=gl 0 (by simp);obtain⟨y1,y2⟩:=x;simp only[Nat.zero_mul,Nat.add_zero,List.getElem_cons_zero]at x0 x1;have f9:=hid f7;dsimp only at f6 cl gg;simp only[List.length_cons]at cl gg b4|-;clear gl f7;have k0:=hid (show lo<hi from by omega);by_cases d4:y1=b.nx
  ·subst d4;go_wp2_with fail;refine bC (fun w':World=>w'.cell? ⟨B,2,none⟩=some (b.nx:Y)/\w'.cell? ⟨B,3,none⟩=some (.slice (some ⟨xb,xo,none⟩) (tl.length+1) a6)/\w'.cell? ⟨xb,xo,none⟩=some (b.nx:Y)) (⟨f6,cl,x0⟩) fun hZ=>?_;refine aB 0 1 2 3 ?_;refine aB 4 5 6 7 ?_;refine aB 8 9 10 11 ?_;refine aB 12 13 14 15 ?_;refine aB 16 17 18 19 ?_;refine az ?_ _;clear hZ;have d5:=f9.tail;by_cases hc1:a6=1
   focus
    obtain rfl:tl=[]:=List.eq_nil_of_length_eq_zero (by omega);have d4:=True.intro;have an:SpAt W7 W7.heap.size (some ⟨xb,xo,none⟩) []:=⟨by simp,fun h=>by simp at h⟩;have e6:=hid ((be.set (b':={ ring:=bZ b.ring off s.data.toList gs,rd:=b.rd,nx:=y2,bl:=(b.nx,y2)::[],nw:=lo }) 2 y2 rfl rfl (fun _ _=>rfl)).setBl (some ⟨xb,xo,none⟩) 0 [] (by have:=SpAt.chg an ((Chg.refl B W7).setCell 2 y2) (Nat.le_refl _) (fun _ ad e=>by cases e;exact a9.1);simpa[World.setCell]using this) (by first | omega | simp) ⟨fun ad e=>by cases e;rfl,fun _ ad e=>by cases e;exact a9⟩ (fun _ ad e=>by cases e;exact cn.of (heap_setCell_other _ _ _ _ a9.1)));have e7:=hid (e5.trans (Chg2.of1 (R:=R) (((Chg.refl B W7).setCell 2 y2).setCell 3 (.slice (some ⟨xb,xo,none⟩) 0 0))));have e8:=hid (SpAt.chg b8.o (((Chg.refl B W7).setCell 2 y2).setCell 3 (.slice (some ⟨xb,xo,none⟩) 0 0)) (by omega) (fun hp ad e=>(ba.2 hp ad e).1));have e9:W2.heap.size<=((W7.setCell ⟨B,2,none⟩ y2).setCell ⟨B,3,none⟩ (.slice (some ⟨xb,xo,none⟩) 0 0)).drew.heap.size:=by simp[World.setCell];omega
   rotate_left 1
   focus
    have d4:=True.intro;have an:SpAt W7 W7.heap.size (some ⟨xb,xo+2,none⟩) tl:=d5;have e6:=hid ((be.set (b':={ ring:=bZ b.ring off s.data.toList gs,rd:=b.rd,nx:=y2,bl:=(b.nx,y2)::tl,nw:=lo }) 2 y2 rfl rfl (fun _ _=>rfl)).setBl (some ⟨xb,xo+2,none⟩) (a6-1) tl (by have:=SpAt.chg an ((Chg.refl B W7).setCell 2 y2) (Nat.le_refl _) (fun _ ad e=>by cases e;exact a9.1);simpa[World.setCell]using this) (by first | omega | simp) ⟨fun ad e=>by cases e;rfl,fun _ ad e=>by cases e;exact a9⟩ (fun _ ad e=>by cases e;exact cn.of (heap_setCell_other _ _ _ _ a9.1)));have e7:=hid (e5.trans (Chg2.of1 (R:=R) (((Chg.refl B W7).setCell 2 y2).setCell 3 (.slice (some ⟨xb,xo+2,none⟩) tl.length (a6-1)))));have e8:=hid (SpAt.chg b8.o (((Chg.refl B W7).setCell 2 y2).setCell 3 (.slice (some ⟨xb,xo+2,none⟩) tl.length (a6-1))) (by omega) (fun hp ad e=>(ba.2 hp ad e).1));have e9:W2.heap.size<=((W7.setCell ⟨B,2,none⟩ y2).setCell ⟨B,3,none⟩ (.slice (some ⟨xb,xo+2,none⟩) tl.length (a6-1))).drew.heap.size:=by simp[World.setCell];omega
   all_goals
    clear an;clear d5;go_wp2_with fail;refine(du _ W2.heap.size va vc gs (e8.below (Below.refl _ _).drew) e9).mono ?_;rintro e W9⟨rfl,hb9⟩;have d6:=hid ((Below.refl _ _).drew.trans hb9);clear hb9;go_wp2_with fail;refine bodyPost_ret (results_tmp2 rfl _ _ _) rfl ⟨?_,?_,e7.trans (Chg2.of_below d6.o)⟩
    ·rw[e4.o];rfl
    have:=e6.below d6.o;unfold Bx.putP;rw[e4.o,gd.o]
    simpa[dy,fM,d4]using this
  go_wp2_with fail;refine bC (fun w':World=>w'.cell? ⟨B,2,none⟩=some (b.nx:Y)/\w'.cell? ⟨B,3,none⟩=some (.slice (some ⟨xb,xo,none⟩) (tl.length+1) a6)/\w'.cell? ⟨xb,xo,none⟩=some (y1:Y)) (⟨f6,cl,x0⟩) fun hZ=>?_;refine aB 0 1 2 3 ?_;refine aB 4 5 6 7 ?_;refine aB 8 9 10 11 ?_;refine aB 12 13 14 15 ?_;refine aB 16 17 18 19 ?_;refine az ?_ _;clear hZ;have e6:=be;have e7:=e5;have e8:=b8;have e9:W2.heap.size<=W7.drew.heap.size:=by show W2.heap.size<=W7.heap.size;omega
  go_wp2_with fail;refine(du _ W2.heap.size va vc gs (e8.below (Below.refl _ _).drew) e9).mono ?_;rintro e W9⟨rfl,hb9⟩;have d6:=hid ((Below.refl _ _).drew.trans hb9);clear hb9;go_wp2_with fail;refine bodyPost_ret (results_tmp2 rfl _ _ _) rfl ⟨?_,?_,e7.trans (Chg2.of_below d6.o)⟩
  ·rw[e4.o];rfl
  have:=e6.below d6.o;unfold Bx.putP;rw[e4.o,gd.o]
  simpa[dy,fM,d4]using this
end
section
set_option maxRecDepth 100000
open Go.RowKit Go.Shelf
theorem kC:(Tryz.prog.info? 5).map (fun i=>(i.zero,i.size,i.bytes))=some (some (.int .u8 0),1,1):=by kernel_rfl
theorem gE {w:World}{base g n cap:Nat}{rg:List UInt8}(h:w.ownsRow base 5 1 (.slice (some ⟨g,0,none⟩) n cap) n (Lib.byteCells rg))(hc:cap=n):bK g rg w:=by
 rcases h.2 with⟨e,_⟩ | ⟨g',cap',cur,e,_,hg,_,_,hcs,ht⟩
 ·cases e
 cases e
 subst hc;rw[Nat.mul_one]at hcs ht;rw[List.take_of_length_le (by rw[Array.length_toList];omega)]at ht;unfold bK;rw[hg,<-ht]
theorem uu (n:Nat) (h1:1<=n) (h2:n<=8192) (w:World) :
  Calls Tryz.prog 98 #[.int .i64 n] w fun e w'=>∃B R,e= .returned (.tuple #[.pointer (some ⟨B,0,none⟩),(0:Int)])/\(∀lb,a8 B R lb (pY n) w')/\Below w.heap.size w w'/\w.heap.size<=B/\w.heap.size<=R:=by
 obtain⟨i0,hi,hz0,hz1,hz2⟩:=info_parts kC
 go_enter Tryz.func98,Tryz.ntmps98
 go_wp2_with (first | (at_make;refine wpList_make_full _ rfl _ _ _ rfl w.heap.size 5 i0 _ 1 Tryz.underlying112 hi hz0 hz1 _ _ _ _ n rfl rfl rfl rfl (by rw[hz2];omega) (by unfold maxLen;omega) (Nat.le_refl _) ?_))
 intro w1 hown hgr
 have hR:bK w.heap.size (List.replicate n 0) w1:=by
  refine gE (base:=w.heap.size) (n:=n) (cap:=n) ?_ rfl
  have e:(madeCells #[Value.int .u8 0] n).toList=Lib.byteCells (List.replicate n 0):=by
   apply List.ext_getElem
   ·simp[madeCells,Lib.byteCells]
   intro i h1 h2
   simp[madeCells,Lib.byteCells,Nat.mod_one]
  rw[<-e];exact hown
 have hlt:=(World.ownsRow.lt hown w.heap.size rfl).2;have hb:Below w.heap.size w w1:=aM hgr (Nat.le_refl _) (fun k e=>by cases e);have HR:=hid hR;have HB:=hid hb;clear hown hgr hR hb;go_wp2_with fail;refine bodyPost_ret (results_tmp2 rfl _ _ _) rfl ⟨w1.heap.size,w.heap.size,rfl,fun lb=>⟨by omega,?_,none,0,?_,⟨⟨by simp[pY],fun h=>by simp[pY]at h⟩,fun h=>by simp[pY]at h⟩,by simp[pY],fun ad e=>(by cases e),fun h=>by simp[pY]at h⟩,HB.alloc HB.size _,HB.size,Nat.le_refl _⟩
 ·unfold bK;rw[Below.heap_alloc _ _ _ hlt];exact HR.o
 rw[heap_alloc_new];unfold gU pY
 simp
theorem sQ (n:Nat)(h1:1<=n)(h2:n<=8192):(pY n).Ok:=by
 have e:(pY n).ring.length=n:=by simp[pY]
 refine⟨by omega,by omega,Int.le_refl _,Int.le_refl _,?_,?_,rfl,fun i hi=>(aY hi).elim⟩
 ·rw[e];show(0:Int)<=0+n;omega
 rw[e];show(0:Int)+n<=_;omega
theorem jk (B R lb:Nat)(b:Bx)(w:World)(h:a8 B R lb b w)(ok:b.Ok) :
  Calls Tryz.prog 80 #[B] w fun e w'=>e= .returned (b.nx-b.rd:Int)/\w'=w.drew:=by
 obtain⟨a,cap,-,⟨c1,-⟩,⟨c2,-⟩,-⟩:=h.ats;have h1:=ok.rd0;have h2:=ok.small;have h3:=ok.most;have h4:=ok.rdnx;have h5:=ok.nxend
 go_enter Tryz.func80,Tryz.ntmps80
 go_wp2
 go_region
 all_goals
  go_wp2
  go_ret;exact⟨rfl,rfl⟩
theorem sR (B R lb:Nat)(b:Bx)(w:World)(h:a8 B R lb b w)(ok:b.Ok) :
  Calls Tryz.prog 170 #[B] w fun e w'=>e= .returned (b.rd+b.ring.length-b.nx:Int)/\w'=w.drew.drew:=by
 obtain⟨a,cap,-,-,⟨c2,-⟩,-⟩:=h.ats;have h1:=ok.rd0;have h2:=ok.small;have h3:=ok.most;have h4:=ok.rdnx;have h5:=ok.nxend;have hw:=IntWalk.i64_in (b.rd+(b.ring.length:Int)-b.nx) ⟨by omega,by omega⟩
 go_enter Tryz.func170,Tryz.ntmps170
 go_wp2_with fail
 go_region_with (first | (go_at_call 205;refine(mG B R lb b _ h.drew ok).mono ?_;rintro e w' ⟨rfl,rfl⟩))
 all_goals
  go_wp2;go_ret;exact⟨rfl,rfl⟩
end
section
set_option maxRecDepth 100000
open Go.RowKit Go.Shelf
theorem jE {W:World}{g:Nat}{rg:List UInt8}(h:bK g rg W)(j:Nat)(hj:j<rg.length):W.cell? ⟨g,j,none⟩=some (.int .u8 (rg[j].toNat:Int)):=by
 rw[cell_of_row _ _ _ _ _ _ h]
 simp[Lib.byteCells,hj]
theorem lK {W:World}{g:Nat}{rg:List UInt8}(h:bK g rg W)(n cap:Nat)(hn:rg.length=n):(convert 112 9 (.slice (some ⟨g,0,none⟩) n cap)).run Tryz.prog W= .ok (.string ⟨rg.toArray⟩) W:=by
 subst hn;refine run_convert_bytes_back _ _ _ 5 _ _ rg Tryz.underlying112 Tryz.underlying5 Tryz.underlying9 fun j hj=> ?_;rw[Addr.add_lit,Nat.zero_add];exact jE h j hj
theorem iW (z:List UInt8)(o:Nat)(cs:List UInt8):splice (Lib.byteCells z) o (Lib.byteCells cs)=Lib.byteCells (ee z o cs):=by
 rw[eD,splice,Lib.byteCells_length,List.append_assoc]
theorem nA {W:World}{g:Nat}{rg:List UInt8}(h:bK g rg W)(o m:Nat):∀j v,(Lib.byteCells ((rg.drop o).take m))[j]? =some v->W.cell? ((⟨g,o,none⟩:Addr).add j)=some v:=by
 intro j v hv;rw[Addr.add_lit]
 have hj:j<((rg.drop o).take m).length:=by
  rcases Nat.lt_or_ge j ((rg.drop o).take m).length with h1 | h1
  ·exact h1
  rw[List.getElem?_eq_none (by rw[Lib.byteCells_length];exact h1)]at hv;cases hv
 rw[List.length_take,List.length_drop]at hj;rw[jE h (o+j) (by omega)];rw[<-hv];simp only[Lib.byteCells,List.getElem?_map];rw[List.getElem?_take_of_lt (by omega),List.getElem?_drop,List.getElem?_eq_getElem (by omega)];rfl
theorem sU (rg:List UInt8)(o q m:Nat)(ho:o<rg.length)(hq:q<=rg.length)(hm:m=min (rg.length-o) q) :
  ee (ee (List.replicate q 0) 0 ((rg.drop o).take m)) m (rg.take (q-m))=(rg.drop o).take q++rg.take (q-(rg.length-o)):=by
 have l1:((rg.drop o).take m).length=m:=by rw[List.length_take,List.length_drop];omega
 have l2:(rg.take (q-m)).length=q-m:=by rw[List.length_take];omega
 have e1:ee (List.replicate q 0) 0 ((rg.drop o).take m)=(rg.drop o).take m++List.replicate (q-m) 0:=by
  unfold ee;rw[l1,List.take_zero,List.nil_append,Nat.zero_add,List.drop_replicate]
 have hd:((rg.drop o).take m++List.replicate (q-m) 0).drop (m+(q-m))=[]:=List.drop_eq_nil_of_le (by rw[List.length_append,l1,List.length_replicate];omega);rw[e1];unfold ee;rw[List.take_left' l1,l2,hd,List.append_nil,show q-(rg.length-o)=q-m by omega]
 congr 1
 by_cases h:q<=rg.length-o
 ·rw[show m=q by omega]
 rw[show m=rg.length-o by omega,List.take_of_length_le (by rw[List.length_drop];omega),List.take_of_length_le (by rw[List.length_drop];omega)]
set_option maxHeartbeats 4000000 in
theorem sV (B R lb:Nat) (b:Bx) (k:Int) (w:World) (h:a8 B R lb b w) (ok:b.Ok) :
  Calls Tryz.prog 122 #[B,k] w fun e w'=>e= .returned (.string ⟨(b.takeS k).toArray⟩)/\a8 B R lb (b.take k) w'/\Chg B w w':=by
 have ag:=hid h;have b9:=hid ok;have k1:=ok.rd0;have k2:=ok.small;have k3:=ok.most;have k4:=ok.one;have k5:=ok.rdnx;have k6:=ok.nxend;clear h ok;by_cases hz:min k (b.nx-b.rd)<=0
 ·have HR:=hid (show b.takeS k=[]/\b.take k=b from⟨by unfold Bx.takeS;rw[if_pos hz],by unfold Bx.take;rw[if_pos hz]⟩);rw[HR.1,HR.2];by_cases hk:b.nx-b.rd<k
  all_goals
   go_enter Tryz.func122,Tryz.ntmps122
   go_wp2_with fail;refine(jk B R lb b _ ag.o b9.o).mono ?_;rintro e w1⟨rfl,rfl⟩;have hle:k<=0\/b.nx-b.rd<=0:=by omega
   (first | (have h1:b.nx-b.rd<=0:=by omega) | (have h1:k<=0:=by omega))
   clear hz hle;go_wp2;go_ret;exact⟨rfl,ag.drew,(Chg.refl _ _).drew⟩
 obtain⟨q,hq⟩:=Int.eq_ofNat_of_zero_le (show 0<=min k (b.nx-b.rd) by omega);have HR:=hid (show b.takeS k=fo b.ring b.rd.toNat q/\b.take k={ b with rd:=b.rd+q }from⟨by unfold Bx.takeS;rw[if_neg hz,hq];try rfl,by unfold Bx.take;rw[if_neg hz,hq];try rfl⟩);rw[HR.1,HR.2];obtain⟨r,hr⟩:=Int.eq_ofNat_of_zero_le k1;have d7:b.rd=(r:Int):=hr;have hq1:1<=q:=by omega
 have hq2:q<=b.ring.length:=by omega
 obtain⟨n,hn⟩:∃n,n=b.ring.length:=⟨_,rfl⟩;have bn:(r:Int).tmod (n:Int)=((r%n:Nat):Int):=by rw[Int.tmod_eq_emod_of_nonneg (by omega)];rfl
 obtain⟨o,ho⟩:∃o,o=r%n:=⟨_,rfl⟩;have k7:o<n:=by rw[ho];exact Nat.mod_lt _ (by omega)
 rw[<-ho]at bn;have gm:=hid (show b.rd.toNat%b.ring.length=o by rw[ho,d7,hn];try rfl);obtain⟨i0,hi,hz0,hz1,hz2⟩:=info_parts kC;have HH:Hid (∀v:Int,v=(q:Int)->True):=fun _ _=>trivial;clear HH;by_cases hk:b.nx-b.rd<k
 all_goals
  (first | (have hv:b.nx-(r:Int)=(q:Int):=by omega) | (have hv:k=(q:Int):=by omega))
  have HN:=hid hn;rw[<-hn]at k2 k3 k4 k6 hq2;have hno:n≠o:=by omega
  have k8:o<=n:=by omega
  have hnz:n≠0:=by omega
  have m0:¬((q:Int)<=0):=by omega
  clear hz hq hr ho hn
  go_enter Tryz.func122,Tryz.ntmps122
  go_wp2_with fail;refine(jk B R lb b _ ag.o b9.o).mono ?_;rintro e w1⟨rfl,rfl⟩
  go_wp2_with (first | (at_make;refine wpList_make_full _ rfl _ _ _ rfl w.heap.size 5 i0 _ 1 Tryz.underlying112 hi hz0 hz1 _ _ _ _ q rfl rfl rfl rfl (by rw[hz2];omega) (by unfold maxLen;omega) (Nat.le_refl _) ?_))
  intro w2 hown hgr;have ev:=(World.ownsRow.lt hown w.heap.size rfl).2
  have hrg:bK w.heap.size (List.replicate q 0) w2:=by
   refine gE (base:=w.heap.size) (n:=q) (cap:=q) ?_ rfl
   have e:(madeCells #[Value.int .u8 0] q).toList=Lib.byteCells (List.replicate q 0):=by
    apply List.ext_getElem
    · simp[madeCells,Lib.byteCells]
    · intro i h1 h2
      simp[madeCells,Lib.byteCells,Nat.mod_one]
   rw[<-e];exact hown
  have hb2:Below w.heap.size w w2:=(Below.refl _ w).drew.trans (aM hgr (Nat.le_refl _) (fun k e=>by cases e));have hx2:=ag.below hb2;obtain⟨a,cap,⟨c0,-⟩,⟨c1,f1⟩,-⟩:=hx2.ats;rw[<-HN.o]at c0;rw[d7]at c1;have gw:=hid hrg;have b6:=hid hb2;have eS:=hid hx2;have hBl:=ag.lt;clear hown hgr hrg hb2 hx2;obtain⟨m,hm⟩:∃m,m=min (n-o) q:=⟨_,rfl⟩;have m4:m<=q:=by omega
  have HM:=hid hm;have k9:=hid (show(Lib.byteCells ((b.ring.drop o).take m)).length=Nat.min (n-o) q by rw[Lib.byteCells_length,List.length_take,List.length_drop,<-HN.o];show _=min _ _;omega);have d8:=hid (show(Lib.byteCells (b.ring.take (q-m))).length=Nat.min n (q-m) by rw[Lib.byteCells_length,List.length_take,<-HN.o];show _=min _ _;omega);have kc:=hid (show(Lib.byteCells ((b.ring.drop o).take m)).length=m by rw[Lib.byteCells_length,List.length_take,List.length_drop,<-HN.o];omega);clear hm;go_wp2_with fail;refine bC (fun w':World=>w'.cell? B=some (.slice (some ⟨R,0,none⟩) n n)/\w'.cell? ⟨B,1,none⟩=some ((r:Int):Y)) (⟨c0,c1⟩) fun hZ=>?_;refine aB 0 1 2 3 ?_;refine aB 4 5 6 7 ?_;refine aB 8 9 10 11 ?_;refine aB 12 13 14 15 ?_;refine aX 16 fun Kq hKq=> ?_;refine step_copy_splice rfl _ _ _ _ rfl 5 Tryz.underlying112 (by kernel_rfl) (some ⟨w.heap.size,0,none⟩) (some ⟨R,o,none⟩) q q (n-o) (n-o) rfl rfl w.heap.size 0 (Lib.byteCells (List.replicate q 0)) 5 gw.o (Lib.byteCells ((b.ring.drop o).take m)) k9.o (fun _=>⟨rfl,_,rfl,nA eS.2.1 o m⟩) (by rw[Lib.byteCells_length,Lib.byteCells_length,List.length_take,List.length_replicate];omega) (Lib.byteCells_one _) w.heap.size w b6.drew (Nat.le_refl _) ?_;intro w3 hr3 hb3;rw[kc.o];have hx3:=ag.below hb3;obtain⟨a3,kd,⟨d0,-⟩,⟨d1,g1⟩,-⟩:=hx3.ats;rw[<-HN.o]at d0;rw[d7]at d1;refine hKq.out _ _ (⟨d0,d1⟩) ?_;clear hKq Kq hZ;refine fun hZ=>aT ?_;refine aO 17 ?_;refine az ?_ _;clear hZ c0 c1 f1;have gx:=hid (show bK w.heap.size (ee (List.replicate q 0) 0 ((b.ring.drop o).take m)) w3 from by have:=hr3.out;rw[iW]at this;exact this);have av:=hid hb3;have b0:=hid hx3;clear hr3 hb3 hx3;go_wp2_with fail;refine bC (fun w':World=>w'.cell? B=some (.slice (some ⟨R,0,none⟩) n n)) (d0) fun hZ=>?_;refine aB 0 1 2 3 ?_;refine aK 4 5 ?_;refine aO 6 ?_;refine aX 7 fun Kq hKq=> ?_;refine step_copy_splice rfl _ _ _ _ rfl 5 Tryz.underlying112 (by kernel_rfl) _ (some ⟨R,0,none⟩) (q-m) (q-m) n n rfl rfl w.heap.size m (Lib.byteCells (ee (List.replicate q 0) 0 ((b.ring.drop o).take m))) 5 gx.o (Lib.byteCells (b.ring.take (q-m))) d8.o (fun hp=>⟨by rw[d8.o]at hp;have hp2:0<min n (q-m):=hp;simp;omega,_,rfl,by have:=nA b0.2.1 0 (q-m);rw[List.drop_zero]at this;exact this⟩) (by rw[Lib.byteCells_length,Lib.byteCells_length,List.length_take,cq _ _ _ (by rw[List.length_take,List.length_replicate,List.length_drop];omega),List.length_replicate];omega) (Lib.byteCells_one _) w.heap.size w av.drew (Nat.le_refl _) ?_;intro w4 hr4 hb4;have bc:=ag.below hb4;obtain⟨a4,ke,⟨u0,-⟩,⟨u1,m5⟩,-⟩:=bc.ats;rw[<-HN.o]at u0;rw[d7]at u1;refine hKq.out _ _ (u0) ?_;clear hKq Kq hZ;refine fun hZ=>aT ?_;refine az ?_ _;clear hZ
  have gy:bK w.heap.size (fo b.ring b.rd.toNat q) w4:=by
   have:=hr4.out;rw[iW,sU _ _ _ _ (by rw[<-HN.o];exact k7) (by rw[<-HN.o];exact hq2) (by rw[<-HN.o];exact HM.o)]at this;unfold bK fo;rw[gm.o];exact this
  have hrl:(fo b.ring b.rd.toNat q).length=q:=by
   unfold fo;rw[gm.o,List.length_append,List.length_take,List.length_drop,List.length_take,<-HN.o];omega
  have hcv:∀v:Value,(convert 112 9 (.slice (some ⟨w.heap.size,0,none⟩) q q)).run Tryz.prog (w4.setCell ⟨B,1,none⟩ v)= .ok (.string ⟨(fo b.ring b.rd.toNat q).toArray⟩) (w4.setCell ⟨B,1,none⟩ v):=fun v=>lK (by unfold bK;rw[heap_setCell_other w4 ⟨B,1,none⟩ _ v (by show w.heap.size≠B;omega)];exact gy) q q hrl;have ki:=hcv ((r:Int)+(q:Int):Int);have fa:=hid (bc.set (b':={ b with rd:=b.rd+q }) 1 (b.rd+q:Int) rfl rfl (fun _ _=>rfl));have bd:=hid ((Chg.of_below (B:=B) hb4).setCell 1 (b.rd+q:Int));rw[d7]at fa bd;clear hr4 hb4 bc hcv gy hrl gx av b0 gw b6 eS;go_wp2_with fail
  all_goals
   go_ret
   first
   | exact⟨rfl,fa.o,bd.o⟩
   | (
     have kk:q=m:=by assumption
     subst kk;exact⟨rfl,fa.o,bd.o⟩)
end

structure PI (S:List UInt8)(N:Nat)(b:Bx)(got:List UInt8):Prop where
 ok:b.Ok
 len:S.length=N
 small:N<=1000
 str:b.Str S
 rd:b.rd=got.length
 got:got=S.take got.length
 has:∀i,b.has i->i<N
theorem PI.nx {S:List UInt8}{N:Nat}{b:Bx}{got:List UInt8}(h:PI S N b got):b.nx<=N:=by
 rcases(show b.nx<=N\/(N:Int)<b.nx by omega)with g | g
 ·exact g
 have:=h.has N (.inl (by omega));omega
theorem PI.start {S:List UInt8}{N:Nat}(hl:S.length=N)(hs:N<=1000){n:Nat}(h1:1<=n)(h2:n<=8192):PI S N (pY n) []:=by
 refine⟨sQ n h1 h2,hl,hs,fun i _ hh=> ?_,rfl,by simp,fun i hh=> ?_⟩
 ·rcases hh with⟨_,g⟩ | g
  ·have:(i:Int)<0:=g;omega
  exact(aY g).elim
 rcases hh with⟨a,g⟩ | g
 ·have:i<0:=g;omega
 exact(aY g).elim
theorem PI.put {S:List UInt8}{N:Nat}{b:Bx}{got:List UInt8}(h:PI S N b got){off to:Nat}(h1:off<=to)(h2:to<=N){s:List UInt8}(hs:s=(S.drop off).take (to-off)) :
  PI S N (b.put off s) got/\(b.put off s).rd=b.rd/\(b.put off s).ring.length=b.ring.length/\b.nx<=(b.put off s).nx/\(off<=b.nx->b.nx<to->b.nx<b.rd+b.ring.length->b.nx<(b.put off s).nx):=by
 have hsm:=h.small;have hl:=h.len;have hsl:s.length=to-off:=by rw[hs,List.length_take,List.length_drop];omega
 obtain⟨p1,p2,p3,p4,p5⟩:=Bx.put_spec h.ok s (off:=off) (by omega) (by omega);refine⟨⟨p1,hl,hsm,?_,p2.trans h.rd,h.got,fun i hi=> ?_⟩,p2,p3,p4,fun g1 g2 g3=> ?_⟩
 ·refine h.str.put h.ok s (by omega) (fun i i1 i2=> ?_);rw[hsl]at i2;rw[hs,List.getElem?_take_of_lt (by omega),List.getElem?_drop]
  congr 1
  omega
 ·rcases(p5 i).1 hi with g | g
  ·exact h.has i g
  rw[hsl]at g;omega
 rcases(show b.nx=(b.put off s).nx\/b.nx<(b.put off s).nx by omega)with e | e
 ·exfalso
  apply p1.nope
  rw[<-e];exact(p5 _).2 (.inr ⟨g1,by rw[hsl];omega,g3⟩)
 exact e
theorem PI.take {S:List UInt8}{N:Nat}{b:Bx}{got:List UInt8}(h:PI S N b got)(k:Int) :
  PI S N (b.take k) (got++b.takeS k)/\(b.take k).nx=b.nx/\(b.take k).ring.length=b.ring.length/\((b.takeS k).length:Int)=max 0 (min k (b.nx-b.rd)):=by
 have hsm:=h.small;have hl:=h.len;have hnx:=h.nx;have h2:=h.ok.rdnx;have hm:=h.ok.most;obtain⟨q,q1,q2,q3,q4,q5⟩:=h.str.take h.ok (r:=got.length) h.rd k;obtain⟨t1,t2,t3,t4⟩:=b.take_has k;refine⟨⟨h.ok.take k (by rw[q2];omega),hl,hsm,q3,?_,?_,fun i hi=>h.has i ((t4 i).1 hi)⟩,t1,by rw[t3],by rw[q4];exact q1⟩
 ·rw[q2,h.rd,List.length_append,q4];omega
 have hq:got.length+q<=N:=by have:=h.rd;omega
 apply List.ext_getElem?
 intro i;by_cases h1:i<got.length
 ·rw[List.getElem?_append_left h1,List.getElem?_take_of_lt (by rw[List.length_append];omega)]
  conv=>lhs;rw[h.got]
  rw[List.getElem?_take_of_lt h1]
 by_cases h3:i<got.length+q
 ·rw[List.getElem?_append_right (by omega),q5 _ (by omega),List.getElem?_take_of_lt (by rw[List.length_append];omega)]
  congr 1
  omega
 rw[List.getElem?_eq_none (by rw[List.length_append];omega),List.getElem?_eq_none (by rw[List.length_take,List.length_append];omega)]
theorem PI.got_le {S:List UInt8}{N:Nat}{b:Bx}{got:List UInt8}(h:PI S N b got):got.length<=N:=by
 have:=h.rd;have:=h.nx;have:=h.ok.rdnx;omega
end Go.Proofs.YtclkcmidhhfdmaaGreatDoor
