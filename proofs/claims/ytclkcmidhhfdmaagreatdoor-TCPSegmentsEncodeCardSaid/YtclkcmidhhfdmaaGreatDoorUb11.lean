import Derived.Test.YtclkcmidhhfdmaaGreatDoorUb5
import Derived.WalkSpells
import Derived.Outline
import Derived.Deep.RegionHeld3
namespace Go.Proofs.YtclkcmidhhfdmaaGreatDoor
open Lib (hid)
section
open Go.RowKit Go.Shelf
theorem nO {w:World}{n b off:Nat}{M:List Sp}(h:SpAt w n (some ⟨b,off,none⟩) M):∀j u,(cd M)[j]? =some u->w.cell? ((⟨b,off,none⟩:Addr).add j)=some u:=by
 intro j u hj;have hl:j<(cd M).length:=(List.getElem?_eq_some_iff.1 hj).1;rw[cy]at hl;obtain⟨b',off',e,_,hc⟩:=h.cells (by omega)
 cases e
 have hi:j/2<M.length:=by omega
 obtain⟨f1,f2⟩:=gS M (j/2) hi;obtain⟨c1,c2⟩:=hc (j/2) hi;rw[Addr.add_lit];by_cases hp:j%2=0
 ·rw[show j/2*2=j by omega]at f1 c1;rw[f1]at hj
  cases hj
  exact c1
 rw[show j/2*2+1=j by omega]at f2;rw[Nat.add_assoc,show j/2*2+1=j by omega]at c2;rw[f2]at hj
 cases hj
 exact c2
theorem ge (w:World){ops:Array Oper}{rest:List Oper}{o:Oper}{a:Act}{Q:Exit->Act->World->Prop}(hgd:o.guard=none)(s x:Operand)
  (ho:o.op= .call { callee:=.builtin .append,args:= #[s,x],argTypes:= #[41,41] })(base:Nat)
  (v:Value)(L:List Sp)(hs:a.eval s=v)(hown:aG w base v L)
  (b off c:Nat)(M:List Sp)(hx:a.eval x= .slice (some ⟨b,off,none⟩) M.length c)(hM:SpAt w w.heap.size (some ⟨b,off,none⟩) M)(hL:L.length+M.length<=4398046511104)(hbase:base<=w.heap.size)
  (h:∀v' w',aG w' base v' (L++M)->w.grownBy w' v.ownBlock->(v'.ownBlock=v.ownBlock\/∃k,v'.ownBlock=some k/\w.heap.size<=k)->wpList Tryz.prog ops Q rest (a.put o.dst v') w'):wpList Tryz.prog ops Q (o::rest) a w:=by
 obtain⟨i0,hi,hz0,hz1,hz2⟩:=info_parts gC
 obtain⟨v',w',hr,h2,h3,h4⟩:=bS (P:=Tryz.prog) w base 41 o.type 92 i0 _ 2 16 Tryz.underlying41 hi hz0 hz1 hz2 rfl (by decide) v L.length (cd L) hown ⟨b,off,none⟩ M.length c (cd M) (cy M)
  (nO hM) (qR M) (by unfold maxLen;omega) (by omega) hbase
 refine wpList_plain hgd fun K hK=> ?_;unfold Oper.wp execOp;simp only[ho,resolve,invoke,builtin,Sem.run_bind,Sem.run_pure,Result.andThen_ok,List.map_toArray,List.map_cons,List.map_nil,hs,hx,hr];refine hK _ _ (h v' w' ?_ h3 h4);show w'.ownsRow _ _ _ _ _ _;rw[List.length_append,cP];exact h2
theorem qh (w:World):aG (w.alloc (.cells #[] 92)) w.heap.size (.slice (some ⟨w.heap.size,0,none⟩) 0 0) []:=by
 refine⟨rfl,.inr ⟨w.heap.size,0,#[],rfl,Nat.le_refl _,heap_alloc_new _ _,Nat.le_refl _,?_,?_,rfl⟩⟩
 ·unfold maxLen;omega
 rfl
theorem lQ (c:Nat)(w:World) :
  Calls Tryz.prog 180 #[.slice none 0 c] w fun e w'=>e= .returned (.slice none 0 0)/\w=w':=by
 have kn:=fun(w:World) (a:Option Addr) (n c:Nat)=>Lib.run_eql_slice_nil (P:=Tryz.prog) w 41 92 a n c 0 0 Tryz.underlying41
 go_enter Tryz.func180,Tryz.ntmps180
 go_wp2;go_ret;exact⟨rfl,rfl⟩
theorem kG (b off:Nat)(c:Nat)(L:List Sp)(w:World)(h:SpAt w w.heap.size (some ⟨b,off,none⟩) L) :
  Calls Tryz.prog 180 #[.slice (some ⟨b,off,none⟩) L.length c] w fun e w'=>∃v,e= .returned v/\aG w' w.heap.size v L/\Below w.heap.size w w':=by
 have kn:=fun(w:World) (a:Option Addr) (n c:Nat)=>Lib.run_eql_slice_nil (P:=Tryz.prog) w 41 92 a n c 0 0 Tryz.underlying41
 go_enter Tryz.func180,Tryz.ntmps180
 have HS:=hid h;have hsm:=h.small;clear h
 go_wp2_with (at_builtin;refine ge _ rfl _ _ rfl w.heap.size _ [] rfl (qh w) b off c L rfl (by exact(HS.below ((Below.refl _ w).alloc (Nat.le_refl _) _)).mono (by simp)) (by simp;omega) (by simp) ?_)
 intro v' w1 hown hg hb;have HO:=hid hown;have HB:Hid (Below w.heap.size w w1):=hid (((Below.refl _ w).alloc (Nat.le_refl _) _).trans (aM hg (by simp) (fun k e=>by cases e;exact Nat.le_refl _)));clear hown hg hb;go_wp2;go_ret;exact⟨v',rfl,HO.o,HB.o⟩
end
section
open Go.RowKit Go.Shelf
theorem jF {w:World}{ops:Array Oper}{o:Oper}{a:Act}{K:Act->World->Prop}{Q:Exit->Act->World->Prop}{E:Prop}(hgd:o.guard=none)(s x:Operand)
  (ho:o.op= .call { callee:=.builtin .append,args:= #[s,x],argTypes:= #[41,41] })(base:Nat)
  (v:Value)(L:List Sp)(hs:a.eval s=v)(hown:aG w base v L)(hL:L.length<=4398046511104)
  (b:Nat)(y:Sp)(hx:a.eval x= .slice (some ⟨b,0,none⟩) 1 1)(hc0:w.cell? b=some (y.1:Y))(hc1:w.cell? ⟨b,1,none⟩=some (y.2:Y))(hbase:base<=w.heap.size)
  (h:∀v' w',aG w' base v' (L++[y])->w.grownBy w' v.ownBlock->(v'.ownBlock=v.ownBlock\/∃k,v'.ownBlock=some k/\w.heap.size<=k)->K (a.put o.dst v') w') :
  if Region.wanted o (yielded ops a.tmps)=true then Oper.wp Tryz.prog o a w K Q else E:=by
 have hw:Region.wanted o (yielded ops a.tmps)=true:=by simp[Region.wanted,hgd]
 rw[if_pos hw];obtain⟨i0,hi,hz0,hz1,hz2⟩:=info_parts gC
 obtain⟨v',w',hr,h2,h3,h4⟩:=bS (P:=Tryz.prog) w base 41 o.type 92 i0 _ 2 16 Tryz.underlying41 hi hz0 hz1 hz2 rfl (by decide) v L.length (cd L) hown ⟨b,0,none⟩ 1 1 [y.1,y.2] rfl
  (by intro j u hj;match j,hj with
   | 0,hj=>simp at hj;subst hj;exact hc0
   | 1,hj=>simp at hj;subst hj;simpa[Addr.add]using hc1) (by intro u hu;simp at hu;rcases hu with rfl | rfl <;> rfl) (by unfold maxLen;omega) (by omega) hbase
 unfold Oper.wp execOp;simp only[ho,resolve,invoke,builtin,Sem.run_bind,Sem.run_pure,Result.andThen_ok,List.map_toArray,List.map_cons,List.map_nil,hs,hx,hr];refine h v' w' ?_ h3 h4;show w'.ownsRow _ _ _ _ _ _;rw[List.length_append,cP];exact h2
theorem jd {P:Program}(w:World)(t ty e:TypeId)(i:TypeInfo)(hi:P.info? e=some i)(ht:P.underlying t=some (.slice e))(ad:Option Addr)(n cap:Nat)(hn:n<=cap)(ax:Option Addr)(c:Nat) :
  (Builtin.append_ #[t,t] ty #[.slice ad n cap,.slice ax 0 c]).run P w= .ok (.slice ad n cap) w:=by
 cases ax with
 | none=>cases ad <;> simp[Builtin.append_,run_underlying ht,Builtin.lenOf,hn,sizeOf,typeInfo,hi,run_firstCells_none,storeCells]
 | some x =>
  have hf:=run_firstCells_some (P:=P) w i.size 0 x 0 c [] (by simp) (by simp)
  cases ad <;> simp[Builtin.append_,run_underlying ht,Builtin.lenOf,hn,sizeOf,typeInfo,hi,hf,storeCells]
end
end Go.Proofs.YtclkcmidhhfdmaaGreatDoor
