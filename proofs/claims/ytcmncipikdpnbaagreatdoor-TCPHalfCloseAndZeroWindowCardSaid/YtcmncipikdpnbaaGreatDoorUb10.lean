import Derived.Test.YtcmncipikdpnbaaGreatDoorUb5
import Derived.WalkSpells
import Derived.Outline
import Derived.Deep.RegionHeld3
namespace Go.Proofs.YtcmncipikdpnbaaGreatDoor
section
open Go.RowKit Go.Shelf
theorem qi {w:World}{n b off:Nat}{M:List Sp}(h:oB w n (some ⟨b,off,none⟩) M):∀j u,(dM M)[j]? =some u->w.cell? ((⟨b,off,none⟩:Addr).add j)=some u:=by
 intro j u a;have i:j<(dM M).length:=(ML.1 a).1;rw[dd]at i;obtain⟨l,c,e,_,k⟩:=h.cells O
 cases e
 have hi:j/2<M.length:=O
 obtain⟨d,f2⟩:=ic M (j/2) hi;obtain⟨f,g⟩:=k (j/2) hi;rw[Ms];by_cases m:j%2=0
 ·rw[show j/2*2=j by omega]at d f;rw[d]at a
  cases a
  exact f
 rw[show j/2*2+1=j by omega]at f2;rw[NW,show j/2*2+1=j by omega]at g;rw[f2]at a
 cases a
 exact g
theorem ix (w:World){e:Array Oper}{rest:List Oper}{o:Oper}{a:Act}{Q:Exit->Act->World->Prop}(g:o.guard=none)(s x:Operand)
  (ho:o.op= .call { callee:=.builtin .append,args:= #[s,x],argTypes:= #[51,51] })(base:Nat)
  (v:Value)(L:List Sp)(hs:a.eval s=v)(f:aH w base v L)
  (b off c:Nat)(M:List Sp)(hx:a.eval x= .slice (some ⟨b,off,none⟩) M.length c)(m:oB w w.heap.size (some ⟨b,off,none⟩) M)(u:L.length+M.length<=4398046511104)(d:base<=w.heap.size)
  (h:∀v' w',aH w' base v' (L++M)->w.grownBy w' v.ownBlock->(v'.ownBlock=v.ownBlock\/∃k,v'.ownBlock=some k/\w.heap.size<=k)->wpList Tryz.prog e Q rest (a.put o.dst v') w'):wpList Tryz.prog e Q (o::rest) a w:=by
 obtain⟨n,hi,i,j,l⟩:=MG iT
 obtain⟨v',w',p,h2,q,r⟩:=bg (P:=Tryz.prog) w base 51 o.type 149 n _ 2 16 Tryz.underlying51 hi i j l Z (by decide) v L.length (dM L) f ⟨b,off,none⟩ M.length c (dM M) (dd M)
  (qi m) (ur M) (by unfold maxLen;omega) (by omega) d
 refine NC g fun K t=> ?_;unfold Oper.wp execOp;simp only[ho,resolve,invoke,builtin,MU,MT,My,MF,M6,Mp,hs,hx,p];refine t _ _ (h v' w' ?_ q r);show w'.ownsRow _ _ _ _ _ _;rw[La,cy];exact h2
theorem vJ (w:World):aH (w.alloc (.cells #[] 149)) w.heap.size (.slice (some ⟨w.heap.size,0,none⟩) 0 0) []:=by
 refine⟨Z,.inr ⟨w.heap.size,0,#[],Z,L4 _,Lp _ _,L4 _,?_,?_,Z⟩⟩
 ·unfold maxLen;omega
 rfl
theorem oF (c:Nat)(w:World) :
  Calls Tryz.prog 148 #[.slice none 0 c] w fun e w'=>e= .returned (.slice none 0 0)/\w=w':=by
 have b:=fun(w:World) (a:Option Addr) (n c:Nat)=>Lib.run_eql_slice_nil (P:=Tryz.prog) w 51 149 a n c 0 0 Tryz.underlying51
 go_enter Tryz.func148,Tryz.ntmps148
 go_wp2;go_ret;exact⟨Z,Z⟩
theorem mW (b off:Nat)(c:Nat)(L:List Sp)(w:World)(h:oB w w.heap.size (some ⟨b,off,none⟩) L) :
  Calls Tryz.prog 148 #[.slice (some ⟨b,off,none⟩) L.length c] w fun e w'=>∃v,e= .returned v/\aH w' w.heap.size v L/\Below w.heap.size w w':=by
 have q:=fun(w:World) (a:Option Addr) (n c:Nat)=>Lib.run_eql_slice_nil (P:=Tryz.prog) w 51 149 a n c 0 0 Tryz.underlying51
 go_enter Tryz.func148,Tryz.ntmps148
 have g:=H h;have i:=h.small;clear h
 go_wp2_with (at_builtin;refine ix _ Z _ _ Z w.heap.size _ [] Z (vJ w) b off c L Z (by exact(g.below ((L3 _ w).alloc (L4 _) _)).mono FE) IH FE ?_)
 intro v' j d f l;have m:=H d;have p:Hid (Below w.heap.size w j):=H (((L3 _ w).alloc (L4 _) _).trans (aR f FE (fun k e=>by cases e;exact L4 _)));clear d f l;go_wp2;go_ret;exact⟨v',Z,m.o,p.o⟩
end
section
open Go.RowKit Go.Shelf
theorem ku {w:World}{e:Array Oper}{o:Oper}{a:Act}{K:Act->World->Prop}{Q:Exit->Act->World->Prop}{E:Prop}(g:o.guard=none)(s x:Operand)
  (ho:o.op= .call { callee:=.builtin .append,args:= #[s,x],argTypes:= #[51,51] })(base:Nat)
  (v:Value)(L:List Sp)(hs:a.eval s=v)(f:aH w base v L)(B:L.length<=4398046511104)
  (b:Nat)(y:Sp)(hx:a.eval x= .slice (some ⟨b,0,none⟩) 1 1)(i:w.cell? b=some (y.1:Y))(l:w.cell? ⟨b,1,none⟩=some (y.2:Y))(c:base<=w.heap.size)
  (h:∀v' w',aH w' base v' (L++[y])->w.grownBy w' v.ownBlock->(v'.ownBlock=v.ownBlock\/∃k,v'.ownBlock=some k/\w.heap.size<=k)->K (a.put o.dst v') w') :
  if Region.wanted o (yielded e a.tmps)=true then Oper.wp Tryz.prog o a w K Q else E:=by
 have hw:Region.wanted o (yielded e a.tmps)=true:=by simp[Region.wanted,g]
 rw[L7 hw];obtain⟨r,hi,m,n,p⟩:=MG iT
 obtain⟨v',w',t,h2,z,A⟩:=bg (P:=Tryz.prog) w base 51 o.type 149 r _ 2 16 Tryz.underlying51 hi m n p Z (by decide) v L.length (dM L) f ⟨b,0,none⟩ 1 1 [y.1,y.2] Z
  (by intro j u d;match j,d with
   | 0,d=>simp at d;subst d;exact i
   | 1,d=>simp at d;subst d;simpa[Addr.add]using l) (by intro u q;simp at q;rcases q with rfl | rfl <;> rfl) (by unfold maxLen;omega) (by omega) c
 unfold Oper.wp execOp;simp only[ho,resolve,invoke,builtin,MU,MT,My,MF,M6,Mp,hs,hx,t];refine h v' w' ?_ z A;show w'.ownsRow _ _ _ _ _ _;rw[La,cy];exact h2
theorem li {P:Program}(w:World)(t ty e:TypeId)(i:TypeInfo)(hi:P.info? e=some i)(b:P.underlying t=some (.slice e))(a:Option Addr)(n cap:Nat)(d:n<=cap)(f:Option Addr)(c:Nat) :
  (Builtin.append_ #[t,t] ty #[.slice a n cap,.slice f 0 c]).run P w= .ok (.slice a n cap) w:=by
 cases f with
 | none=>cases a <;> simp[Builtin.append_,run_underlying b,Builtin.lenOf,d,sizeOf,typeInfo,hi,run_firstCells_none,storeCells]
 | some x =>
  have g:=run_firstCells_some (P:=P) w i.size 0 x 0 c [] FE FE
  cases a <;> simp[Builtin.append_,run_underlying b,Builtin.lenOf,d,sizeOf,typeInfo,hi,g,storeCells]
end
end Go.Proofs.YtcmncipikdpnbaaGreatDoor
