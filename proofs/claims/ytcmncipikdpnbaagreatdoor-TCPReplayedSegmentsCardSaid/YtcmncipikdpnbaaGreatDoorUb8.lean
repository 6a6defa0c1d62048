import Derived.Test.YtcmncipikdpnbaaGreatDoorUb4
import Derived.Test.YtcmncipikdpnbaaGreatDoorUb7
import Derived.Lib.BufferWrite
import Derived.Deep.RegionLaw
import Derived.BigRegion
import Derived.Laws.CopyOwn
import Derived.BigQuiet
import Derived.IntWalk
namespace Go.Proofs.YtcmncipikdpnbaaGreatDoor
section
set_option maxRecDepth 100000
open Go.RowKit Go.Shelf
theorem o7 {P:Program}(w:World)(l m ty c:TypeId)(g o a f:Nat)(s:ByteArray)(d:Array Value)(t:TypeId)
  (n:P.underlying l=some (.slice c))(hs:(P.info? c).map (·.size)=some 1)(p:w.heap[g]? =some (.cells d t (0,0)))(h:o+min s.size a<=d.size) :
  (Builtin.copy_ #[l,m] ty #[.slice (some ⟨g,o,none⟩) a f,.string s]).run P w =
   .ok (goInt (min s.size a:Nat)) (w.setRow g (d.toList.take o++Lib.byteCells (s.data.toList.take (min s.size a))++d.toList.drop (o+min s.size a)).toArray):=by
 have hlen:(Lib.byteCells (s.data.toList.take (min s.size a))).length=min s.size a:=by rw[Lib.byteCells_length,Lg,<-Lib.size_eq];omega
 have e:=run_storeCells_at P g o t (Lib.byteCells (s.data.toList.take (min s.size a))) 0 d w p (by rw[hlen];simpa using h) (Lib.byteCells_one _)
 have k:List.take (min s.size a) (List.map (fun b:UInt8=>Value.int IntKind.u8 (b.toNat:Int)) s.data.toList)=Lib.byteCells (s.data.toList.take (min s.size a)):=by
  rw[<-List.map_take];rfl
 have j:Nat.min s.size a=min s.size a:=Z;rw[hlen]at e;simp only[Nu]at e
 cases hq:P.info? c with
 | none=>simp[hq]at hs
 | some i =>
  simp[Builtin.copy_,run_underlying n,Builtin.lenOf,Builtin.firstCells,sizeOf,typeInfo,hq,j]
  rw[k,e]
  simp[Result.andThen]
theorem iw {P:Program}{i:Array Oper}{o:Oper}{a:Act}{w:World}{K:Act->World->Prop}{Q:Exit->Act->World->Prop}{E:Prop}(m:o.guard=none)(d s:Operand)(n q:TypeId)
  (u:o.op= .call { callee:=.builtin .copy,args:= #[d,s],argTypes:= #[n,q] })(e:TypeId)(x:P.underlying n=some (.slice e))(p:(P.info? e).map (·.size)=some 1)
  (g off b f:Nat)(y:a.eval d= .slice (some ⟨g,off,none⟩) b f)(str:ByteArray)(hs:a.eval s= .string str)
  (c:Array Value)(t:TypeId)(r:w.heap[g]? =some (.cells c t (0,0)))(j:off+min str.size b<=c.size)
  (h:∀w',Hid (w'.heap[g]? =some (.cells (c.toList.take off++Lib.byteCells (str.data.toList.take (min str.size b))++c.toList.drop (off+min str.size b)).toArray t (0,0)))->Hid (nF g w w')->K (a.put o.dst (goInt (min str.size b:Nat))) w') :
  if Region.wanted o (yielded i a.tmps)=true then Oper.wp P o a w K Q else E:=by
 have hw:Region.wanted o (yielded i a.tmps)=true:=by simp[Region.wanted,m]
 rw[L9 hw];have l:=o7 (P:=P) w n q o.type e g off b f str c t x p r j;unfold Oper.wp;simp only[execOp,u,resolve,invoke,builtin,MX,MW,MB,MI,M9,Ms,hs,y,l];exact h _ (setRow_heap w g c _ t _ r) ⟨Z,Z,Z,by simp,fun k _ z=>setRow_other w g k _ z⟩
theorem fC (rg:List UInt8)(o:Nat)(cs:List UInt8):Lib.byteCells (fY rg o cs)=(Lib.byteCells rg).take o++Lib.byteCells cs++(Lib.byteCells rg).drop (o+cs.length):=by
 unfold fY Lib.byteCells;rw[LQ,LQ,List.map_take,List.map_drop,LO]
theorem mG {R B i:Nat}{v:Value}{w w':World}(h:nF R w w')(c:w.cell? ⟨B,i,none⟩=some v)(b:B≠R):w'.cell? ⟨B,i,none⟩=some v :=
 (Li (a:=⟨B,i,none⟩) (h.block B (Ll c) b)).trans c
theorem nF.F2 {B:Nat}{w w':World}(h:nF B w.drew w'):nF B w w':=⟨h.os,h.tape,h.output,h.size,h.block⟩
theorem wy (s:ByteArray)(m:Nat):(s.extract m s.size).data.toList=s.data.toList.drop m:=by
 rw[NP,Array.toList_extract,List.extract_eq_take_drop];exact Mf (by rw[Lt,NX];exact L6 _)
def bR (R:Nat)(rg:List UInt8)(w:World):Prop:=w.heap[R]? =some (.cells (Lib.byteCells rg).toArray 5 (0,0))
set_option maxHeartbeats 1000000 in
theorem xA (B R:Nat) (rg:List UInt8) (k:Nat) (s:ByteArray) (w:World) (r:w.cell? B=some (.slice (some ⟨R,0,none⟩) rg.length rg.length)) (t:bR R rg w) (l:B≠R) (h1:1<=rg.length) (y:rg.length<=8192)
  (hs:s.size<=rg.length) (K:k<=4611686018427387904) :
  Calls Tryz.prog 183 #[B,.int .i64 k,.string s] w fun e w'=>e= .returned (.tuple #[])/\bR R (dH rg k s.data.toList) w'/\nF R w w':=by
 obtain⟨n,a⟩:∃n,n=rg.length:=⟨_,Z⟩;rw[<-a]at r h1 y hs;have z:k%n<n:=Ng _ O;have bd:(k:Int).tmod (n:Int)=((k%n:Nat):Int):=by rw[ML O];rfl
 have cn:=H a;clear a;generalize b:k%n=o at *;have A:=H b;clear b;have C:n≠o:=O
 have u:=H t;clear t;have c:(Lib.byteCells rg).toArray.size=n:=by rw[LJ,Lib.byteCells_length];exact cn.symm
 have x:=H c;clear c;have hz:n≠0:=O
 have E:o<=n:=O
 go_enter Tryz.func183,Tryz.ntmps183
 go_wp2_with fail
 go_region_law (refine iw Z _ _ _ _ Z 5 Tryz.underlying72 IL R o (n-o) (n-o) (by simp[Act.eval,Act.put]) s (by simp[Act.eval,Act.put]) _ _ u.o (by rw[x.o];omega) ?_;intro F d f;have L:=mG f.out (show w.drew.cell? _=_ from r) l)
 all_goals
  obtain⟨m,j⟩:∃m,m=min s.size (n-o):=⟨_,Z⟩
  have g:bR R (fY rg o (s.data.toList.take m)) F:=by
   have h:=d.out;unfold bR;rw[fC,Lg,<-Lib.size_eq,show min m s.size=m by omega];rw[<-j]at h;exact h
  rw[<-j];clear d u x;have G:=H j;have I:=H g;have hW:m<=s.size:=O
  have i:(Lib.byteCells (fY rg o (s.data.toList.take m))).toArray.size=n:=by rw[LJ,Lib.byteCells_length,dQ _ _ _ (by rw[Lg,<-cn.o];omega)];exact cn.symm
  have J:=H i;clear i;clear j g;go_wp2_with fail
  go_region_law (refine iw Z _ _ _ _ Z 5 Tryz.underlying72 IL R 0 n n (by simp[Act.eval]) (s.extract m s.size) (by simp[Act.eval]) _ _ I.o (by rw[J.o];omega) ?_;intro M p q)
  refine bodyPost_end (LY Z _ _ _) Z ⟨Z,?_,f.out.F2.trans q.out.F2⟩;have h:=p.out;rw[wy,show min (s.extract m s.size).size n=(s.data.toList.drop m).length by rw[NO,Lt,<-Lib.size_eq];omega,LV]at h;unfold bR dH;rw[<-cn.o,A.o,fC,<-Lib.size_eq,<-G.o];exact h
end
section
set_option maxRecDepth 100000
open Go.RowKit Go.Shelf
attribute [local go_sem] Oper.semAt_some
theorem uY {s:Sp}{L:List Sp}{k:Nat}(h:k<L.length):jA s (L.drop k)=if L[k].2<s.1 then L[k]::jA s (L.drop (k+1))else if s.2<L[k].1 then s::L[k]::L.drop (k+1)else jA (min s.1 L[k].1,max s.2 L[k].2) (L.drop (k+1)):=by
 rw[MP h];rfl
theorem qE {e:Int}{L:List Sp}(h:aJ e L=true):bC L=L:=by
 unfold bC;rw[List.filter_eq_self];intro x a;obtain⟨k,b,rfl⟩:=Nm.1 a
 simpa using (fA h b).2.1
theorem oa {e:Int}{L:List Sp}(h:aJ e L=true)(k:Nat):∃a,aJ a (L.drop k)=true:=by
 induction L generalizing e k with
 | nil=>exact⟨0,by simp;rfl⟩
 | cons x L b =>
  cases k with
  | zero=>exact⟨e,h⟩
  | succ k=>rw[aB]at h;exact b h.2 k
def jH (N M Q:Nat)(w:World)(y:Sp)(a:List Sp)(v:Value)(r:Nat)(W:World):Prop :=
 At N 0 y.1 W/\At N 1 y.2 W/\At Q 0 v W/\At (Q+1) 0 (r:Int) W/\aH W M v a/\Below N w W/\(∀b,v.ownBlock=some b->b<Q\/Q+2<=b)/\y.1<y.2
def Bg (N M Q:Nat)(w:World)(s:Sp)(L:List Sp)(k:Nat)(W:World):Prop :=
 ∃y a v,jH N M Q w y a v L.length W/\a.length<=k/\jA s L=a++jA y (L.drop k)
def Bh (N M Q:Nat)(w:World)(s:Sp)(L:List Sp)(c:Code)(k:Nat)(W:World):Prop :=
 ∃y a v,jH N M Q w y a v k W/\a.length<=k/\jA s L=a++y::L.drop k/\c= .exit 0
theorem mH {N M Q:Nat}{w:World}{y:Sp}{b:List Sp}{v:Value}{r:Nat}{B:Nat}(g:N<=w.heap.size)(i:N<=B){A d:World}{row:Option Nat}(h:jH N M Q w y b v r A)(c:A.grownBy d row)
  (f:∀r,row=some r->B<=r/\∃o:Obj,A.heap[r]? =some o/\o.isCells=false):jH N M Q w y b v r d:=by
 have a:=fun r e=>(f r e).2;obtain⟨h1,h2,j,k,l,m,n⟩:=h;exact⟨h1.own c a,h2.own c a,j.own c a,k.own c a,l.own c a,ef m c f g i,n⟩
theorem xB {N M Q:Nat}{s:Sp}{w:World}{L:List Sp}{B:Nat}(a:N<=w.heap.size)(b:N<=B):OwnFrom B (Bg N M Q w s L):=fun _ _ _ _ ⟨y,outs,v,h,r⟩ hg hr=>⟨y,outs,v,mH a b h hg hr,r⟩
theorem xC {N M Q:Nat}{s:Sp}{w:World}{L:List Sp}{B:Nat}(a:N<=w.heap.size)(b:N<=B)(c:Code):OwnFrom B (Bh N M Q w s L c):=fun _ _ _ _ ⟨y,outs,v,h,r⟩ hg hr=>⟨y,outs,v,mH a b h hg hr,r⟩
theorem gb {N M Q:Nat}{w:World}{y:Sp}{a:List Sp}{v:Value}{r:Nat}{W:World}(h:jH N M Q w y a v r W)(b:N<=W.heap.size)(o:Obj):jH N M Q w y a v r (W.alloc o):=by
 obtain⟨h1,h2,c,d,e,f,g⟩:=h;exact⟨h1.alloc o,h2.alloc o,c.alloc o,d.alloc o,e.alloc o,f.alloc b o,g⟩
theorem xD {N M Q:Nat}(ag:N<M)(ak:M<Q){w:World}{y:Sp}{d a:List Sp}{v v':Value}{r:Nat}{W W':World}(h:jH N M Q w y d v r W)(f:W.grownBy W' v.ownBlock)(o:aH W' M v' a)
  (g:v'.ownBlock=v.ownBlock\/∃k,v'.ownBlock=some k/\W.heap.size<=k)(x:N<=w.heap.size) :
  jH N M Q w y a v' r (W'.setCell Q v'):=by
 obtain⟨h1,h2,q,i,j,l,m,s⟩:=h;have c:∀k,k<M\/k=Q\/k=Q+1->v.ownBlock≠some k:=fun k t e=>by have:=(j.lt k e).1;have:=m k e;omega
 have n:∀b,v'.ownBlock=some b->b<Q\/Q+2<=b:=by
  intro b e
  rcases g with g | ⟨k,g,t⟩
  ·rw[g]at e;exact m b e
  rw[g]at e;cases e;have:=i.lt;omega
 have u:v'.ownBlock≠some Q:=fun e=>by have:=n Q e;omega
 refine⟨(h1.grown f (c _ O)).ob _ O,(h2.grown f (c _ O)).ob _ O,(q.grown f (c _ O)).set _,(i.grown f (c _ O)).ob _ O,o.setCell _ _ _ u,?_,n,s⟩;refine(l.trans (aR f ?_ (fun k e=> ?_))).setCell (p:=⟨Q,0,none⟩) (by show N<=Q;omega) _
 ·have:=l.size;omega
 have:=(j.lt k e).1;omega
theorem uZ {N M Q:Nat}(ag:N<M)(ak:M<Q){w:World}{y:Sp}{a:List Sp}{v:Value}{r:Nat}{W:World}(h:jH N M Q w y a v r W)(u:Nat):jH N M Q w y a v u (W.setCell ⟨Q+1,0,none⟩ (u:Int)):=by
 obtain⟨h1,h2,d,f,g,i,c,j⟩:=h;have b:v.ownBlock≠some (Q+1):=fun e=>by have:=c _ e;omega
 exact⟨h1.ob _ O,h2.ob _ O,d.ob _ O,f.set _,g.setCell _ _ _ b,i.setCell (p:=⟨Q+1,0,none⟩) (by show N<=Q+1;omega) _,c,j⟩
theorem oh {N M Q:Nat}(ag:N<M)(ak:M<Q){w:World}{y:Sp}{a:List Sp}{v:Value}{r:Nat}{W:World}(h:jH N M Q w y a v r W)(z:Sp)(hz:z.1<z.2):jH N M Q w z a v r ((W.setCell N z.1).setCell ⟨N,1,none⟩ z.2):=by
 obtain⟨h1,h2,d,f,c,g,i,j⟩:=h;have b:v.ownBlock≠some N:=fun e=>by have:=(c.lt _ e).1;omega
 exact⟨(h1.set _).other _ _ IK,(h2.other _ _ IK).set _,(d.ob _ O).ob _ O,(f.ob _ O).ob _ O,(c.setCell _ _ _ b).setCell _ _ _ b,(g.setCell (p:=⟨N,0,none⟩) (L6 _) _).setCell (p:=⟨N,1,none⟩) (L6 _) _,i,hz⟩
theorem n7 {N M Q:Nat}{w:World}{y:Sp}{a:List Sp}{v:Value}{r:Nat}{W:World}(h:jH N M Q w y a v r W):jH N M Q w y a v r W.drew:=by
 obtain⟨h1,h2,b,c,d,e,f⟩:=h;exact⟨h1,h2,b,c,d,e.drew,f⟩
theorem sT.drop {w:World}{n₀:Nat}{a:Option Addr}{L:List Sp}(h:sT w n₀ a L){cap:Nat}(c:L.length<=cap)(k:Nat):sT w n₀ (if cap=k then a else Option.map (fun x=>x.add (k*2)) a) (L.drop k):=by
 refine⟨by rw[Lt];have:=h.small;omega,fun d=> ?_⟩;rw[Lt]at d;obtain⟨b,off,rfl,e,f⟩:=h.cells O;rw[L7 O,Option.map_some,Mw];refine⟨b,off+k*2,Z,e,fun i hi=> ?_⟩;rw[Lt]at hi;obtain⟨g,j⟩:=f (k+i) O;rw[List.getElem_drop,show off+k*2+i*2=off+(k+i)*2 by omega];exact⟨g,j⟩
theorem j9 (w:World)(base n₀:Nat)(v:Value)(L:List Sp)(a:Option Addr)(cap:Nat)(c:List Sp)(h:aH w base v L)(i:L.length<=2199023255552)(b:base<=w.heap.size)
  (j:sT w n₀ a c)(l:n₀<=w.heap.size)(d:0<c.length->∀g,a=some g->v.ownBlock≠some g.block)(n:Nat)(f:n=c.length) :
  Calls Tryz.prog 196 #[v,.slice a n cap] w fun e w'=>∃v',e= .returned v'/\aH w' base v' (L++bC c)/\w.grownBy w' v.ownBlock/\(v'.ownBlock=v.ownBlock\/∃k,v'.ownBlock=some k/\w.heap.size<=k):=by
 subst f;exact j8 w base n₀ v L a cap c h i b j l d
theorem xE {W:World}(a b:Int){n₀:Nat}(h:W.heap.size+1<=n₀):sT (W.alloc (.cells #[a,b] 149)) n₀ (some ⟨W.heap.size,0,none⟩) [(a,b)] :=
 ⟨IK,fun _=>⟨W.heap.size,0,Z,O,fun i hi=>by
  obtain rfl:i=0:=Jq
  simp⟩⟩
theorem qF {n₀:Nat}{w a b:World}(c:n₀<=w.heap.size)(h:Below w.heap.size w a)(k:Below w.heap.size w b)(hs:a.heap.size<=b.heap.size):Below n₀ a b :=
 ⟨k.os.trans h.os.symm,k.tape.trans h.tape.symm,k.output.trans h.output.symm,hs,fun i hi=>(k.block i O).trans (h.block i O).symm⟩
set_option maxHeartbeats 1000000 in
theorem zj (w:World) (n₀:Nat) (a:Option Addr) (cap:Nat) (L:List Sp) (s:Sp) (hc:sT w n₀ a L) (hn:n₀<=w.heap.size) (V:L.length<=cap) :
  Calls Tryz.prog 184 #[.slice a L.length cap,.agg #[s.1,s.2]] w fun e w'=>∃v,e= .returned v/\aH w' w.heap.size v (fJ L s)/\Below w.heap.size w w':=by
 obtain⟨s1,s2⟩:=s;have X:=(((L5 w.heap.size w).alloc (L6 _) (.cells #[s1,s2] 149)).alloc IK (.cells #[.slice a L.length cap] 187)).alloc IM (.cells #[.slice a L.length cap] 187);have HB:=H X;have HS:=H (hc.below (X.mono hn));have c5:=hc.small;clear X hc;refine(ME (n:=4)).1 ?_;refine callsIn_of_wp_marks Tryz.func184 Z trivial ?_ Z;simp only[Tryz.ntmps184,LJ,LC,M4,Nat.reduceAdd,Nat.reduceSub,Mb,Ma,Mp,Mi,LG,LT];refine Mc.2 ?_;go_wp2_with fail
 go_step3
 go_wp2_with fail;refine(oV _ _ _ _ _ Z).mono ?_;rintro e w1⟨rfl,rfl⟩;go_wp2_with fail;refine(nX _ n₀ a cap L (s1,s2) HS.o (by have:=HB.size;omega)).mono ?_;rintro e z⟨rfl,S⟩;have ev:At w.heap.size 0 s1 z:=((((At.new (W:=w) (vs:= #[s1,s2]) 149 Z Z).alloc _).alloc _).below S IM);have ew:At w.heap.size 1 s2 z:=((((At.new (W:=w) (vs:= #[s1,s2]) 149 Z Z).alloc _).alloc _).below S IM);have hz:At (w.heap.size+1+1) 0 (.slice a L.length cap) z:=((At.new (W:=(w.alloc (.cells #[s1,s2] 149)).alloc (.cells #[.slice a L.length cap] 187)) (vs:= #[.slice a L.length cap]) 187 IK Z).below S IK);have ex:=H (HS.below (S.mono (by have:=HB.size;omega)));have b5:=H (HB.trans (S.mono HB.size));have b1:=S.size
 simp at b1
 clear S HB HS
 cases htk:cW L (s1,s2)with
 | false =>
  go_wp2_with fail;rw[No];refine gB Z ⟨_,Z,?_,b5.o⟩;unfold fJ;rw[htk];exact aH.nil _ _
 | true =>
  obtain⟨i0,hi,b2,b3,b4⟩:=MJ iP;have hX:¬9223372036854775807<L.length+1:=O
  go_wp2_with (first | (at_make;refine wpList_make_own _ Z _ _ _ Z z.heap.size 149 i0 _ 2 Tryz.underlying51 hi b2 b3 _ _ _ (L.length+1) Z Z O (by rw[b4];omega) J2 (L6 _) ?_))
  intro C T E;have eC:=MH T z.heap.size Z;have a9:aH C z.heap.size (.slice (some ⟨z.heap.size,0,none⟩) 0 (L.length+1)) []:=T;have c6:=E.size;have be:=ev.grown E IK;have bk:=ew.grown E IK;have a4:=hz.grown E IK;have bn:=H (ex.grown E O IK);have an:=H (b5.trans (aR E O (fun k e=>by cases e)));have fw:=H a9;clear T a9 E ex b5 ev ew hz;have q1:=((a4.alloc (.cells #[.slice (some ⟨z.heap.size,0,none⟩) 0 (L.length+1)] 51)).alloc (.cells #[(L.length:Int)] 3)).1;have cw:=H be;have d4:=H bk;clear be bk a4;go_wp2_with fail
  go_step3
  go_wp2_with fail;have ag:w.heap.size<z.heap.size:=O
  have ak:z.heap.size<C.heap.size:=O
  refine(Mc (n:=4)).1 ?_
  refine oU (n₀:=n₀) O Z Z (bn.below (((L5 n₀ C).alloc O _).alloc IM _)) IM
   (Bg w.heap.size z.heap.size C.heap.size w (s1,s2) L) (Bh w.heap.size z.heap.size C.heap.size w (s1,s2) L) (xB (L6 _) IM) (xC (L6 _) IM) ?start ?round ?done ?stop
  case start =>
   refine⟨(s1,s2),[],_,⟨(cw.alloc _).alloc _,(d4.alloc _).alloc _,(At.new _ Z Z).alloc _,At.new _ IK Z,(fw.alloc _).alloc _,(an.alloc O _).alloc IM _,fun b e=>by cases e;exact .inl eC.2,(bm.1 htk).2.2.1⟩,LZ _,Z⟩
  case round =>
   rintro l k hk W hl⟨⟨u,t⟩,f,v,y,hlen,x⟩;have hY:C.heap.size+1<W.heap.size:=y.2.2.2.1.lt;have HV:=H (y.2.2.2.2.1.lt);have b6:=H y.2.2.2.2.2.2.1;have hy:u<t:=y.2.2.2.2.2.2.2;have HI:=H y;have HG:=H x;have HD:=H (uY (s:=(u,t)) hk);obtain⟨va,vc,rfl,-⟩:=y.2.2.2.2.1.at O;clear y x q1 cw d4
   gi_wp2
   refine⟨(KeepsOthers.alloc _ _).from _,(L5 n₀ W).alloc O _,fun _ W2=>jH w.heap.size z.heap.size C.heap.size w (u,t) f (.slice va f.length vc) L.length W2/\At W.heap.size 0 L[k].1 W2/\At W.heap.size 1 L[k].2 W2,?_,⟨gb HI.o O _,At.new _ Z Z,At.new _ Z Z⟩,?_⟩
   ·intro _ A A' row h hg hr;exact⟨mH (B:=_) (L6 _) (by first | omega | (simp;omega)) h.1 hg hr,h.2.1.own hg (fun r e=>(hr r e).2),h.2.2.own hg (fun r e=>(hr r e).2)⟩
   rintro W2⟨y,⟨x0,f0⟩,⟨x1,f1⟩⟩;obtain⟨⟨d0,e0⟩,⟨d1,e1⟩,⟨d2,e2⟩,⟨d3,e3⟩,-⟩:=id y;have G:=H y;have d5:=fA (bm.1 htk).1 hk;clear HI y;by_cases c1:L[k].2<u
   ·have b7:f.length<=4398046511104:=by omega
    gi_wp2_with (first | (gi_at_builtin;refine eM _ Z _ _ Z z.heap.size _ _ Z (G.2.2.2.2.1.alloc _) b7 W2.heap.size L[k] Z IK IK (by have:=G.2.2.1.lt;simp;omega) ?_))
    intro v' W3 ho hg a5;obtain⟨h9,hf,a6,-⟩:=ho.at Jg;have d6:=gb G.o (by have:=G.1.lt;omega) (.cells #[L[k].1,L[k].2] 149);have ey:=xD ag ak d6 hg ho (by simpa using a5) (L6 _);have g:(Value.slice va f.length vc).ownBlock≠some C.heap.size:=fun e=>by have:=b6.o _ e;omega
    obtain⟨J,g0⟩:=d6.2.2.1.grown hg g;have a7:=((KeepsOthers.alloc W2 (.cells #[L[k].1,L[k].2] 149)).trans (cx d6.2.2.2.2.1 hg));have b0:Below n₀ W2 W3:=((L5 n₀ W2).alloc (by have:=G.1.lt;omega) _).trans (aR hg (by have:=G.1.lt;simp;omega) (fun b e=>by have:=HV.o _ e;omega));have fx:=H a7;have an:=H b0;have gF:=H ey;have a1:(f++[L[k]]).length<=k+1:=Jg
    have gN:=H a1;clear ey a7 b0 hg g G HV d0 d1 d2 d3 e0 e1 e2 e3 x0 x1 f0 f1 ho d6 a5 a1;generalize (f++[L[k]]).length=nl at a6;subst a6
    gi_wp2_with fail
    refine⟨(fx.trans (KeepsOthers.setCell _ _ _)).from _,an.setCell (p:=⟨C.heap.size,0,none⟩) (by show n₀<=C.heap.size;omega) _,_,_,_,gF.o,gN.out,?_⟩;rw[HG.o,HD.o,L9 c1,LO];rfl
   have U:=H (MS.1 c1);by_cases c2:t<L[k].1
   ·gi_wp2_with fail
    exact⟨(KeepsOthers.setCell _ _ _).from _,_,f,_,uZ ag ak G.o k,hlen,by rw[HG.o,HD.o,L7 (MS.2 U.o),L9 c2,MP hk],Z⟩
   have d7:=H (MS.1 c2);by_cases c3:L[k].1<u
   ·by_cases c4:t<L[k].2
    ·have HP:=H (show(min u L[k].1,max t L[k].2)=(L[k].1,L[k].2)from Prod.ext IN IN)
     gi_wp2_with fail
     exact⟨((KeepsOthers.setCell _ _ _).trans (KeepsOthers.setCell _ _ _)).from _,((L5 n₀ W2).setCell (p:=⟨w.heap.size,0,none⟩) Jh _).setCell (p:=⟨w.heap.size,1,none⟩) Jh _,(L[k].1,L[k].2),f,_,oh ag ak G.o (L[k].1,L[k].2) IN,O,Pl⟩
    have HP:=H (show(min u L[k].1,max t L[k].2)=(L[k].1,t)from Prod.ext IN IN)
    gi_wp2_with fail
    exact⟨((KeepsOthers.setCell _ _ _).trans (KeepsOthers.setCell _ _ _)).from _,((L5 n₀ W2).setCell (p:=⟨w.heap.size,0,none⟩) Jh _).setCell (p:=⟨w.heap.size,1,none⟩) Jh _,(L[k].1,t),f,_,oh ag ak G.o (L[k].1,t) IN,O,Pl⟩
   by_cases c4:t<L[k].2
   ·have HP:=H (show(min u L[k].1,max t L[k].2)=(u,L[k].2)from Prod.ext IN IN)
    gi_wp2_with fail
    exact⟨((KeepsOthers.setCell _ _ _).trans (KeepsOthers.setCell _ _ _)).from _,((L5 n₀ W2).setCell (p:=⟨w.heap.size,0,none⟩) Jh _).setCell (p:=⟨w.heap.size,1,none⟩) Jh _,(u,L[k].2),f,_,oh ag ak G.o (u,L[k].2) IN,O,Pl⟩
   have HP:=H (show(min u L[k].1,max t L[k].2)=(u,t)from Prod.ext IN IN)
   gi_wp2_with fail
   exact⟨((KeepsOthers.setCell _ _ _).trans (KeepsOthers.setCell _ _ _)).from _,((L5 n₀ W2).setCell (p:=⟨w.heap.size,0,none⟩) Jh _).setCell (p:=⟨w.heap.size,1,none⟩) Jh _,(u,t),f,_,oh ag ak G.o (u,t) IN,O,Pl⟩
  case done =>
   rintro d W hD⟨⟨u,t⟩,f,v,y,hlen,x⟩ a2;rw[Nk]at x;have eL:w.heap.size<=d:=JM
   obtain⟨va,vc,rfl,-⟩:=y.2.2.2.2.1.at O;obtain⟨⟨d0,-⟩,⟨d1,-⟩,⟨d2,-⟩,⟨d3,-⟩,-⟩:=id y;have hy:u<t:=y.2.2.2.2.2.2.2;have G:=H y;have HG:=H x;have eS:=H a2;have b8:C.heap.size+1<W.heap.size:=y.2.2.2.1.lt;have hr:L.length<=L.length:=O
   have b9:L.length<=cap:=O
   clear y x a2 hD q1 cw d4;go_wp2_with fail;refine wp_mono (Q:=gV _) ?_ (jF _);refine az (fun w':World=>w'.cell? C.heap.size=some (.slice va f.length vc)/\w'.cell? w.heap.size=some (u:Y)/\w'.cell? ⟨w.heap.size,1,none⟩=some (t:Y)/\w'.cell? ⟨C.heap.size+1,0,none⟩=some ((L.length:Int):Y)) (⟨d2,d0,d1,d3⟩) fun hZ=>?_;refine aA 0 1 4 5 ?_;refine aQ 6 ?_;have bo:=H (n7 G.o);have F:=H (gb bo.o (by show w.heap.size<=W.heap.size;omega) (.cells #[u,t] 149));refine aY 2 fun Kq i=> ?_;go_simp;refine i.out _ _ (⟨F.2.2.1.1,F.1.1,F.2.1.1,F.2.2.2.1.1⟩) ?_;clear i Kq hZ;refine fun hZ=>aW ?_;refine aY 3 fun Kq i=> ?_;go_simp;refine(j9 (W.drew.alloc (.cells #[u,t] 149)) z.heap.size (W.heap.size+1) (.slice va f.length vc) f _ _ [(u,t)] F.2.2.2.2.1 O IM (xE (W:=W.drew) _ _ (L6 _)) IK KC 1 Z).mono ?_;rintro e W5⟨v1,rfl,I,m,K⟩;rw[gC,one,L9 hy]at I;have g:∀b,b<z.heap.size\/b=C.heap.size\/b=C.heap.size+1->(Value.slice va f.length vc).ownBlock≠some b:=fun b X e=>by have:=(G.2.2.2.2.1.lt _ e).1;have:=G.2.2.2.2.2.2.1 _ e;omega
   have J:=F.1.grown m (g _ O);have M:=F.2.1.grown m (g _ O);have N:=F.2.2.1.grown m (g _ O);have P:=F.2.2.2.1.grown m (g _ O);have bu:=((KeepsOthers.drew W).trans ((KeepsOthers.alloc _ _).trans (cx F.2.2.2.2.1 m))).same d _ eS.o Z;have bv:Below w.heap.size w W5:=F.2.2.2.2.2.1.trans (aR m IM (fun b e=>by have:=(G.2.2.2.2.1.lt _ e).1;omega));have c0:W.heap.size<=W5.heap.size:=by have:=m.size;simp at this;omega
   have e4:=H bu;have bx:=H bv;have aa:=H I;have ab:∀b,b<z.heap.size\/b=C.heap.size\/b=C.heap.size+1->v1.ownBlock≠some b:=fun b X e=>by { have h1:=(I.lt _ e).1;rcases K with h | ⟨j,h,hj⟩;(rw[h]at e;exact g b X e);(rw[h]at e;cases e;simp at hj;omega) }
   have HZ:=H (show _/\_/\_/\_ from⟨J,M,N,P⟩);have U:=H ab;clear bu bv I m g K ab;go_simp;refine i.out _ _ (⟨N.1,J.1,M.1,P.1⟩) ?_;clear i Kq hZ;refine fun hZ=>aW ?_;clear J M N P;refine aY 7 fun Kq i=> ?_;go_simp;refine(j9 W5 z.heap.size n₀ v1 (f++[(u,t)]) _ _ (L.drop L.length) aa.o Jg O (((bn.drop V L.length).below (qF hn an.o bx.o O))) O (by intro hp ad e;obtain⟨b,off,e2,X,-⟩:=(bn.drop V L.length).cells hp;rw[e2]at e;cases e;exact fun e=>by have:=(aa.lt _ e).1;simp at this;omega) _ IK).mono ?_;rintro e W6⟨v2,rfl,a3,q,-⟩;have g:∀b,b<z.heap.size->v1.ownBlock≠some b:=fun b X e=>by have:=(aa.lt _ e).1;omega
   have bz:=(cx aa.o q).same d _ e4.o Z;have av:Below w.heap.size w W6:=bx.trans (aR q O (fun b e=>by have:=(aa.lt _ e).1;omega));obtain⟨J,M,N,P⟩:=HZ.o;replace J:=J.grown q (U.o _ O);replace M:=M.grown q (U.o _ O);replace N:=N.grown q (U.o _ O);replace P:=P.grown q (U.o _ O);have cC:=H bz;have e5:=H av;have e6:=H a3;clear bz av a3 g q;go_simp;refine i.out _ _ (⟨N.1,J.1,M.1,P.1⟩) ?_;clear i Kq hZ;refine fun hZ=>aW ?_;clear J M N P;refine aQ 8 ?_;refine ay ?_ _;simp only[gV];go_wp2_with fail
   all_goals
    refine dt Z cC.o ⟨_,Z,?_,dM e5.o (L6 _) eL⟩;unfold fJ;rw[L9 htk,HG.o];have:=e6.o;rw[Nk,show bC ([]:List Sp)=[]from Z,LP]at this;exact(this.own (grownBy_putObj' W6 d _) (fun r e=>by cases e;exact⟨_,cC.o,Z⟩)).mono O
  case stop =>
   rintro d c k W hD hk⟨⟨u,t⟩,f,v,y,hlen,x,rfl⟩ a2;have eL:w.heap.size<=d:=JM
   obtain⟨va,vc,rfl,-⟩:=y.2.2.2.2.1.at O;obtain⟨⟨d0,-⟩,⟨d1,-⟩,⟨d2,-⟩,⟨d3,-⟩,-⟩:=id y;have hy:u<t:=y.2.2.2.2.2.2.2;have G:=H y;have HG:=H x;have eS:=H a2;have b8:C.heap.size+1<W.heap.size:=y.2.2.2.1.lt;have hr:k<=L.length:=O
   have b9:k<=cap:=O
   clear y x a2 hD q1 cw d4;refine Mc.2 ?_;go_wp2_with fail;refine wp_mono (Q:=gV _) ?_ (jF _);refine az (fun w':World=>w'.cell? C.heap.size=some (.slice va f.length vc)/\w'.cell? w.heap.size=some (u:Y)/\w'.cell? ⟨w.heap.size,1,none⟩=some (t:Y)/\w'.cell? ⟨C.heap.size+1,0,none⟩=some ((k:Int):Y)) (⟨d2,d0,d1,d3⟩) fun hZ=>?_;refine aA 0 1 4 5 ?_;refine aQ 6 ?_;have bo:=H (n7 G.o);have F:=H (gb bo.o (by show w.heap.size<=W.heap.size;omega) (.cells #[u,t] 149));refine aY 2 fun Kq i=> ?_;go_simp;refine i.out _ _ (⟨F.2.2.1.1,F.1.1,F.2.1.1,F.2.2.2.1.1⟩) ?_;clear i Kq hZ;refine fun hZ=>aW ?_;refine aY 3 fun Kq i=> ?_;go_simp;refine(j9 (W.drew.alloc (.cells #[u,t] 149)) z.heap.size (W.heap.size+1) (.slice va f.length vc) f _ _ [(u,t)] F.2.2.2.2.1 O IM (xE (W:=W.drew) _ _ (L6 _)) IK KC 1 Z).mono ?_;rintro e W5⟨v1,rfl,I,m,K⟩;rw[gC,one,L9 hy]at I;have g:∀b,b<z.heap.size\/b=C.heap.size\/b=C.heap.size+1->(Value.slice va f.length vc).ownBlock≠some b:=fun b X e=>by have:=(G.2.2.2.2.1.lt _ e).1;have:=G.2.2.2.2.2.2.1 _ e;omega
   have J:=F.1.grown m (g _ O);have M:=F.2.1.grown m (g _ O);have N:=F.2.2.1.grown m (g _ O);have P:=F.2.2.2.1.grown m (g _ O);have bu:=((KeepsOthers.drew W).trans ((KeepsOthers.alloc _ _).trans (cx F.2.2.2.2.1 m))).same d _ eS.o Z;have bv:Below w.heap.size w W5:=F.2.2.2.2.2.1.trans (aR m IM (fun b e=>by have:=(G.2.2.2.2.1.lt _ e).1;omega));have c0:W.heap.size<=W5.heap.size:=by have:=m.size;simp at this;omega
   have e4:=H bu;have bx:=H bv;have aa:=H I;have ab:∀b,b<z.heap.size\/b=C.heap.size\/b=C.heap.size+1->v1.ownBlock≠some b:=fun b X e=>by { have h1:=(I.lt _ e).1;rcases K with h | ⟨j,h,hj⟩;(rw[h]at e;exact g b X e);(rw[h]at e;cases e;simp at hj;omega) }
   have HZ:=H (show _/\_/\_/\_ from⟨J,M,N,P⟩);have U:=H ab;clear bu bv I m g K ab;go_simp;refine i.out _ _ (⟨N.1,J.1,M.1,P.1⟩) ?_;clear i Kq hZ;refine fun hZ=>aW ?_;clear J M N P;refine aY 7 fun Kq i=> ?_;go_simp;refine(j9 W5 z.heap.size n₀ v1 (f++[(u,t)]) _ _ (L.drop k) aa.o Jg O (((bn.drop V k).below (qF hn an.o bx.o O))) O (by intro hp ad e;obtain⟨b,off,e2,X,-⟩:=(bn.drop V k).cells hp;rw[e2]at e;cases e;exact fun e=>by have:=(aa.lt _ e).1;simp at this;omega) _ IK).mono ?_;rintro e W6⟨v2,rfl,a3,q,-⟩;have g:∀b,b<z.heap.size->v1.ownBlock≠some b:=fun b X e=>by have:=(aa.lt _ e).1;omega
   have bz:=(cx aa.o q).same d _ e4.o Z;have av:Below w.heap.size w W6:=bx.trans (aR q O (fun b e=>by have:=(aa.lt _ e).1;omega));obtain⟨J,M,N,P⟩:=HZ.o;replace J:=J.grown q (U.o _ O);replace M:=M.grown q (U.o _ O);replace N:=N.grown q (U.o _ O);replace P:=P.grown q (U.o _ O);have cC:=H bz;have e5:=H av;have e6:=H a3;clear bz av a3 g q;go_simp;refine i.out _ _ (⟨N.1,J.1,M.1,P.1⟩) ?_;clear i Kq hZ;refine fun hZ=>aW ?_;clear J M N P;refine aQ 8 ?_;refine ay ?_ _;simp only[gV];go_wp2_with fail
   all_goals
    refine dt Z cC.o ⟨_,Z,?_,dM e5.o (L6 _) eL⟩;unfold fJ;rw[L9 htk,HG.o];have gT:=(oa (bm.1 htk).1 k).choose_spec;have:=e6.o;rw[qE gT,LO]at this;exact(this.own (grownBy_putObj' W6 d _) (fun r e=>by cases e;exact⟨_,cC.o,Z⟩)).mono O
end
section
open Go.RowKit Go.Shelf
def i9 (R:Nat)(b:Bx)(a:Option Addr)(cap:Nat):Array Value:= #[.slice (some ⟨R,0,none⟩) b.ring.length b.ring.length,b.rd,b.nx,.slice a b.bl.length cap,b.nw]
def tN (B R lb:Nat)(bl:List Sp)(a:Option Addr):Prop:=(∀b,a=some b->b=⟨b.block,b.off,none⟩)/\(0<bl.length->∀b,a=some b->b.block≠B/\b.block≠R/\lb<=b.block)
structure Hh (w:World)(a:Option Addr)(L:List Sp):Prop extends sT w w.heap.size a L where
 ty:0<L.length->∀ad,a=some ad->dW w ad.block 149
def ao (B R lb:Nat)(b:Bx)(w:World):Prop :=
 B≠R/\bR R b.ring w/\∃a c,w.heap[B]? =some (.cells (i9 R b a c) 120 (0,0))/\Hh w a b.bl/\b.bl.length<=c/\tN B R lb b.bl a
structure Co (B R:Nat)(w w':World):Prop where
 os:w'.os=w.os
 tape:w'.tape=w.tape
 output:w'.output=w.output
 size:w.heap.size<=w'.heap.size
 block:∀k,k<w.heap.size->k≠B->k≠R->w'.heap[k]? =w.heap[k]?
theorem Co.refl (B R:Nat)(w:World):Co B R w w:=⟨Z,Z,Z,L6 _,fun _ _ _ _=>rfl⟩
theorem Co.trans {B R:Nat}{a b c:World}(h:Co B R a b)(k:Co B R b c):Co B R a c :=
 ⟨k.os.trans h.os,k.tape.trans h.tape,k.output.trans h.output,La h.size k.size,fun i hi d e=>(k.block i (Ld hi h.size) d e).trans (h.block i hi d e)⟩
theorem Co.Hj {B R:Nat}{a b:World}(h:nF B a b):Co B R a b:=⟨h.os,h.tape,h.output,h.size,fun i hi c _=>h.block i hi c⟩
theorem Co.Iw {B R:Nat}{a b:World}(h:nF R a b):Co B R a b:=⟨h.os,h.tape,h.output,h.size,fun i hi _ c=>h.block i hi c⟩
theorem Co.of_below {B R:Nat}{w w':World}(h:Below w.heap.size w w'):Co B R w w':=⟨h.os,h.tape,h.output,h.size,fun k a _ _=>h.block k a⟩
theorem Co.below {B R N:Nat}{w w':World}(h:Co B R w w')(a:N<=B)(b:N<=R)(hs:N<=w.heap.size):Below N w w':=⟨h.os,h.tape,h.output,h.size,fun k c=>h.block k O O O⟩
theorem ao.lt {B R lb:Nat}{b:Bx}{w:World}(h:ao B R lb b w):B<w.heap.size/\R<w.heap.size:=by
 obtain⟨_,c,a,d,e,_⟩:=h;exact⟨(L8.1 e).1,(L8.1 c).1⟩
theorem ao.ats {B R lb:Nat}{b:Bx}{w:World}(h:ao B R lb b w):∃a cap,At B 0 (.slice (some ⟨R,0,none⟩) b.ring.length b.ring.length) w/\At B 1 b.rd w/\At B 2 b.nx w/\At B 3 (.slice a b.bl.length cap) w/\At B 4 b.nw w/\sT w w.heap.size a b.bl/\b.bl.length<=cap/\tN B R lb b.bl a:=by
 obtain⟨_,_,a,cap,d,h1,h2,e⟩:=h;have c:∀i v,(i9 R b a cap)[i]? =some v->At B i v w:=fun i v f=>⟨by rw[Lq _ _ _ _ _ _ d];exact f,LW _ _ _ _ _ d⟩;exact⟨a,cap,c 0 _ Z,c 1 _ Z,c 2 _ Z,c 3 _ Z,c 4 _ Z,h1.tosT,h2,e⟩
theorem ao.typed {B R lb n cap:Nat}{a:Option Addr}{b:Bx}{w:World}(h:ao B R lb b w)(g:w.cell? ⟨B,3,none⟩=some (.slice a n cap))(i:0<b.bl.length)(d:Addr)(ha:a=some d):dW w d.block 149:=by
 obtain⟨_,_,j,c,f,h1,_⟩:=h;have k:w.cell? ⟨B,3,none⟩=some (.slice j b.bl.length c):=by rw[Lq _ _ _ _ _ _ f];rfl
 have e:=g.symm.trans k
 injection e with e
 injection e with e1 e2 e3
 exact h1.ty i d (e1.symm.trans ha)
theorem ao.below {B R lb:Nat}{b:Bx}{w w':World}(h:ao B R lb b w)(c:Below w.heap.size w w'):ao B R lb b w':=by
 have g:=h.lt;obtain⟨h0,k,a,d,f,h1,h2,l⟩:=h;exact⟨h0,(c.block R g.2).trans k,a,d,(c.block B g.1).trans f,⟨(h1.tosT.below c).mono c.size,fun i j e=>(h1.ty i j e).of (c.block _ (h1.ty i j e).lt)⟩,h2,l⟩
theorem ao.alloc {B R lb:Nat}{b:Bx}{w:World}(h:ao B R lb b w)(o:Obj):ao B R lb b (w.alloc o):=h.below ((L5 _ w).alloc (L6 _) o)
theorem ao.drew {B R lb:Nat}{b:Bx}{w:World}(h:ao B R lb b w):ao B R lb b w.drew:=h.below (L5 _ w).drew
theorem ao.other {B R C lb:Nat}{b:Bx}{w w':World}(h:ao B R lb b w)(d:nF C w w')(s:C≠B)(t:C≠R)(u:C<lb):ao B R lb b w':=by
 have o:=h.lt;obtain⟨h0,x,a,j,k,h1,h2,l⟩:=h;refine⟨h0,(d.block R o.2 (Ne.symm t)).trans x,a,j,(d.block B o.1 (Ne.symm s)).trans k,⟨⟨h1.small,fun c=> ?_⟩,fun c m e=>(h1.ty c m e).of (d.block _ (h1.ty c m e).lt (by have:=(l.2 c m e).2.2;omega))⟩,h2,l⟩;obtain⟨f,off,p,q,g⟩:=h1.cells c;have n:f≠C:=by have:=(l.2 c _ p).2.2;dsimp only at this;omega
 have r:=d.block f q n;exact⟨f,off,p,Ld q d.size,fun i hi=>⟨(Li (a:=⟨f,_,none⟩) r).trans (g i hi).1,(Li (a:=⟨f,_,none⟩) r).trans (g i hi).2⟩⟩
theorem ao.set {B R lb:Nat}{b b':Bx}{w:World}(h:ao B R lb b w)(i:Nat)(v:Value)(p:b'.ring=b.ring)(c:b'.bl=b.bl)(he:∀a cap,(i9 R b a cap).setIfInBounds i v=i9 R b' a cap):ao B R lb b' (w.setCell ⟨B,i,none⟩ v):=by
 have s:=h.lt;obtain⟨h0,j,a,cap,k,h1,h2,l⟩:=h;refine⟨h0,?_,a,cap,?_,?_,by rw[c];exact h2,by rw[c];exact l⟩
 ·unfold bR;rw[p,Md w ⟨B,i,none⟩ R v (Ne.symm h0)];exact j
 ·rw[LK _ _ _ _ _ _ k,he]
 rw[c];refine⟨⟨h1.small,fun d=> ?_⟩,fun d m e=>(h1.ty d m e).of (Md _ _ _ _ (l.2 d m e).1)⟩;obtain⟨q,off,n,r,f⟩:=h1.cells d;have g:=(l.2 d _ n).1;exact⟨q,off,n,by simp[World.setCell];exact r,fun o hi=>⟨by rw[LX _ _ _ _ (fun e=>g (congrArg Addr.block e).symm)];exact(f o hi).1,by rw[LX _ _ _ _ (fun e=>g (congrArg Addr.block e).symm)];exact(f o hi).2⟩⟩
theorem ao.FU {B R lb:Nat}{b:Bx}{w:World}(h:ao B R lb b w)(f:Option Addr)(c:Nat)(L:List Sp)(hs:sT w w.heap.size f L)(g:L.length<=c)(d:tN B R lb L f)(m:0<L.length->∀i,f=some i->dW w i.block 149):ao B R lb { b with bl:=L } (w.setCell ⟨B,3,none⟩ (.slice f L.length c)):=by
 obtain⟨h0,n,a,r,o,h1,h2,u⟩:=h;refine⟨h0,?_,f,c,?_,?_,g,d⟩
 ·unfold bR;rw[Md w ⟨B,3,none⟩ R _ (Ne.symm h0)];exact n
 ·rw[LK _ _ _ _ _ _ o];rfl
 refine⟨⟨hs.small,fun j=> ?_⟩,fun j i e=>(m j i e).of (Md _ _ _ _ (d.2 j i e).1)⟩;obtain⟨s,off,p,t,k⟩:=hs.cells j;have l:=(d.2 j _ p).1;exact⟨s,off,p,by simp[World.setCell];exact t,fun q hi=>⟨by rw[LX _ _ _ _ (fun e=>l (congrArg Addr.block e).symm)];exact(k q hi).1,by rw[LX _ _ _ _ (fun e=>l (congrArg Addr.block e).symm)];exact(k q hi).2⟩⟩
theorem ao.ring {B R lb:Nat}{b:Bx}{rg:List UInt8}{w w':World}(h:ao B R lb b w)(hlen:rg.length=b.ring.length)(q:bR R rg w')(f:nF R w w'):ao B R lb { b with ring:=rg } w':=by
 have r:=h.lt;obtain⟨h0,s,a,j,k,h1,h2,l⟩:=h;refine⟨h0,q,a,j,?_,⟨⟨h1.small,fun c=> ?_⟩,fun c m e=>(h1.ty c m e).of (f.block _ (h1.ty c m e).lt (l.2 c m e).2.1)⟩,h2,l⟩
 ·rw[f.block B r.1 h0,k];unfold i9;dsimp only;rw[hlen]
 obtain⟨g,off,n,o,d⟩:=h1.cells c;have p:=f.block g o (l.2 c _ n).2.1;exact⟨g,off,n,Ld o f.size,fun i hi=>⟨(Li (a:=⟨g,_,none⟩) p).trans (d i hi).1,(Li (a:=⟨g,_,none⟩) p).trans (d i hi).2⟩⟩
theorem oj (B R lb:Nat)(b:Bx)(w:World)(h:ao B R lb b w)(ok:b.Ok) :
  Calls Tryz.prog 174 #[B] w fun e w'=>e= .returned (b.rd+b.ring.length:Int)/\w'=w.drew:=by
 obtain⟨a,c,⟨d,-⟩,⟨f,-⟩,-⟩:=h.ats;have h1:=ok.E1;have h2:=ok.small;have g:=ok.most
 go_enter Tryz.func174,Tryz.ntmps174
 go_wp2
 go_region
 all_goals
  go_wp2
  go_ret;exact⟨Z,Z⟩
theorem co (B R lb:Nat)(b:Bx)(w:World)(h:ao B R lb b w) :
  Calls Tryz.prog 83 #[B] w fun e w'=>e= .returned b.nx/\w=w':=by
 obtain⟨a,c,-,-,⟨d,-⟩,-⟩:=h.ats
 go_enter Tryz.func83,Tryz.ntmps83
 go_wp2
 go_ret;exact⟨Z,Z⟩
end
section
set_option maxRecDepth 100000
open Go.RowKit Go.Shelf
theorem rn {e:Int}{l:List Sp}(h:aJ e l=true):(l.length:Int)<=aD l:=by
 induction l generalizing e with
 | nil=>exact Lb _
 | cons x l a =>
  rw[aB]at h;have:=a h.2;show((x::l).length:Int)<=x.2-x.1+aD l;rw[LC];omega
theorem zk {bl:List Sp}{lo hi:Int}(c:cW bl (lo,hi)=true){k:Nat}(a:k<(bs bl (lo,hi)).length) :
  lo<=(bs bl (lo,hi))[k].1/\(bs bl (lo,hi))[k].1<(bs bl (lo,hi))[k].2/\(bs bl (lo,hi))[k].2<=hi:=by
 obtain⟨d,b⟩:=cj c;have h1:=fA d a;have e:=(b (bs bl (lo,hi))[k].1).1 ⟨_,LS a,O,O⟩;have f:=(b ((bs bl (lo,hi))[k].2-1)).1 ⟨_,LS a,O,O⟩;dsimp only at e f;omega
theorem ro {rg:List UInt8}{off:Int}{s:List UInt8}{gs:List Sp}{k:Nat}(h:k<gs.length):bp rg off s (gs.take (k+1))=dH (bp rg off s (gs.take k)) gs[k].1.toNat (ep s off gs[k]):=by
 unfold bp;rw[Lz h,N5];rfl
theorem ua {rg:List UInt8}{off:Int}{s:List UInt8}{gs:List Sp}(h1:1<=rg.length)(h:∀g∈gs,(g.2-g.1).toNat<=rg.length):(bp rg off s gs).length=rg.length:=by
 induction gs generalizing rg with
 | nil=>rfl
 | cons g gs a =>
  have e:(dH rg g.1.toNat (ep s off g)).length=rg.length:=eW _ _ _ h1 (La (lD _ _ _) (h g IK));show(bp (dH rg g.1.toNat (ep s off g)) off s gs).length=_;rw[a O (fun x b=>by rw[e];exact h x (by simp[b])),e]
theorem At.Dj {B R i:Nat}{v:Value}{w w':World}(h:At B i v w)(d:nF R w w')(b:B≠R):At B i v w':=by
 have c:=d.block B h.lt b;exact⟨(Li (a:=⟨B,i,none⟩) c).trans h.1,(NJ (a:=⟨B,i,none⟩) c).trans h.2⟩
theorem sT.Dj {w w':World}{n₀ R:Nat}{a:Option Addr}{L:List Sp}(h:sT w n₀ a L)(l:nF R w w')(m:n₀<=w.heap.size)(d:0<L.length->∀f,a=some f->f.block≠R):sT w' n₀ a L :=
 ⟨h.small,fun g=>by
  obtain⟨b,off,j,e,c⟩:=h.cells g;have k:=l.block b O (d g _ j);exact⟨b,off,j,e,fun i hi=>⟨(Li (a:=⟨b,_,none⟩) k).trans (c i hi).1,(Li (a:=⟨b,_,none⟩) k).trans (c i hi).2⟩⟩⟩
theorem sT.tail {w:World}{n₀ b off:Nat}{x:Sp}{L:List Sp}(h:sT w n₀ (some ⟨b,off,none⟩) (x::L)):sT w n₀ (some ⟨b,off+2,none⟩) L:=by
 refine⟨by have:=h.small;rw[LC]at this;omega,fun _=> ?_⟩;obtain⟨j,a,e,c,d⟩:=h.cells IK
 cases e
 refine⟨b,off+2,Z,c,fun i hi=> ?_⟩;obtain⟨f,g⟩:=d (i+1) Jq;rw[show off+2+i*2=off+(i+1)*2 by omega];exact⟨f,g⟩
theorem zl (s:ByteArray)(off:Int)(g:Sp)(i j:Nat)(hi:g.1-off=i)(a:g.2-off=j):(s.extract i j).data.toList=ep s.data.toList off g:=by
 unfold ep;rw[NP,Array.toList_extract,List.extract_eq_take_drop,hi,show g.2-g.1=(j:Int)-i by omega]
 congr 1
 omega
set_option maxHeartbeats 4000000 in
theorem zm (B R lb:Nat) (b:Bx) (off:Int) (s:ByteArray) (w:World) (h:ao B R lb b w) (ok:b.Ok) (f0:lb<=w.heap.size) (hs:s.size<=4611686018427387904) :
  Calls Tryz.prog 173 #[B,off,.string s] w fun e w'=>e= .returned (.tuple #[(b.FR off s.size:Int),(wW off)])/\ao B R lb (b.put off s.data.toList) w'/\Co B R w w':=by
 by_cases d:off<0\/1099511627776<off
 ·have U:=H (show b.FR off s.size=0/\wW off=130/\b.put off s.data.toList=b from⟨by unfold Bx.FR;rw[L9 d],by unfold wW;rw[L9 d],by unfold Bx.put;rw[L9 d]⟩);rw[U.1,U.2.1,U.2.2]
  rcases d with d | d
  all_goals
   (try have f2:0<=off:=O)
   go_enter Tryz.func173,Tryz.ntmps173
   go_wp2_with fail;exact Lo (NH Z _ _ _) Z ⟨Z,h,Co.refl _ _ _⟩
 have U:=H (show b.FR off s.size=(if b.hi off s.size<=b.lo off then 0 else dq (bs b.bl (b.lo off,b.hi off s.size)))/\wW off=0/\b.put off s.data.toList=(if b.hi off s.data.toList.length<=b.lo off then b else b.ES off s.data.toList (b.lo off,b.hi off s.data.toList.length))from⟨by unfold Bx.FR;rw[L7 d],by unfold wW;rw[L7 d],by unfold Bx.put;rw[L7 d]⟩);rw[U.1,U.2.1,U.2.2,show s.data.toList.length=s.size from(Lib.size_eq s).symm];clear U;obtain⟨e3,e4⟩:0<=off/\off<=1099511627776:=O
 clear d;obtain⟨lo,M⟩:∃lo,lo=b.lo off:=⟨_,Z⟩;obtain⟨hi,N⟩:∃hi,hi=b.hi off s.size:=⟨_,Z⟩;rw[<-M,<-N];unfold Bx.lo at M;unfold Bx.hi at N;have e7:=H M;have d8:=H N;clear M N;obtain⟨a,P,⟨c0,-⟩,⟨c1,-⟩,⟨c2,-⟩,⟨c3,-⟩,-⟩:=h.ats;have ac:=H h;have b7:=H ok;have k1:=ok.E1;have k2:=ok.small;have k3:=ok.most;have k4:=ok.one;have k5:=ok.Cv;have k6:=ok.Du;have S:=h.lt;have cF:off+(s.size:Int)<=9223372036854775807:=O
 have cL: -9223372036854775808<=off+(s.size:Int):=O
 clear h ok
 go_enter Tryz.func173,Tryz.ntmps173
 go_wp2_with fail;refine wp_mono (Q:=lx (fun a' w'=>a'={ tmps:= #[.pointer (some ⟨B,0,none⟩),.int .i64 off,.string s,undef,undef,undef,.int .i64 0,.int .i64 0,.pointer (some ⟨w.heap.size,0,none⟩),undef,undef,undef,.pointer (some ⟨B,0,none⟩),.bool false,.int .i64 off,.bool (decide (off<0)),.bool (decide (off<0)),.int .i64 off,.bool (decide (1099511627776<off)),.bool (decide (off<0)||decide (1099511627776<off)),.int .i64 off,.pointer (some ⟨B,0,none⟩),.pointer (some ⟨B,0,none⟩),.pointer (some ⟨B,2,none⟩),.int .i64 b.nx,.int .i64 lo,.int .i64 off,.string s,.int .i64 (s.size:Int),.int .i64 (off+(s.size:Int)),.pointer (some ⟨B,0,none⟩),.int .i64 (b.rd+(b.ring.length:Int)),.int .i64 hi,.agg #[.int .i64 lo,.int .i64 hi],undef,undef,undef,undef,undef,undef,undef,undef,undef,undef,undef,undef,undef,undef,undef,undef,undef,undef,undef,undef,undef,undef,undef,undef,undef,undef,undef,undef,undef,undef,undef,undef,undef,undef,undef,undef,undef,undef,undef,undef,undef,undef,undef,undef,undef,undef,undef,undef,undef,undef,undef,undef,undef,undef,undef,undef,undef,undef,undef,undef,undef,undef,undef,undef,undef,undef,undef,undef,undef,undef,undef,undef,undef,undef,undef,undef,undef,undef,undef,undef,undef,undef,undef,undef,undef,undef],defers:=[] }/\ao B R lb b w'/\At w.heap.size 0 (.int .i64 lo) w'/\At w.heap.size 1 (.int .i64 hi) w'/\Co B R w w'/\w.heap.size+1<=w'.heap.size)) ?_ (lF ?_)
 ·refine az (fun w':World=>w'.cell? ⟨B,2,none⟩=some (b.nx:Y)) (c2) fun f=>?_;refine aA 0 1 2 3 ?_;refine aQ 4 ?_;refine aQ 5 (v:=.int .i64 lo) ?_ (hy:=by intro w m;go_simp;(have:=e7.o;split <;> (congr 3;omega)));refine aM 6 7 ?_;refine aQ 8 ?_;refine aQ 9 (v:=.int .i64 (off+(s.size:Int))) ?_ (hy:=by intro w m;go_simp;(first | exact LF _ ⟨cL,cF⟩ | rw[LF _ ⟨cL,cF⟩]));refine aQ 10 ?_;refine wpAnyH_ready (rs:=[11,14]) IL IK ?_;refine AllReadyH.cons (by simp only[Lx,Lv,Lr];rfl) (fun n c=> ?_) (AllReadyH.cons (by simp only[Lx,Lv,Lr];rfl) (fun n c=> ?_) AllReadyH.nil)
  focus
   go_simp;refine(oj B R lb b _ (ac.drew) b7.o).mono ?_;rintro e w1⟨rfl,rfl⟩;go_simp;refine c.out _ _ c2 ?_;clear c n f;refine fun f=>aW ?_;refine aQ 12 (v:=.int .i64 hi) ?_ (hy:=KE);refine aQ 13 ?_;refine aY 14 fun n c=> ?_;go_simp;refine c.out _ _ (((L5 _ w).alloc (L6 _) _ |>.cell (p:=⟨B,2,none⟩) S.1).trans c2) ?_;clear c n f;refine fun f=>aW ?_
  rotate_left 1
  focus
   go_simp;refine c.out _ _ (((L5 _ w).alloc (L6 _) _ |>.cell (p:=⟨B,2,none⟩) S.1).trans c2) ?_;clear c n f;refine fun f=>aW ?_;refine aY 11 fun n c=> ?_;go_simp;refine(oj B R lb b _ ((ac.alloc _).drew) b7.o).mono ?_;rintro e w1⟨rfl,rfl⟩;go_simp;refine c.out _ _ (((L5 _ w).alloc (L6 _) _ |>.cell (p:=⟨B,2,none⟩) S.1).trans c2) ?_;clear c n f;refine fun f=>aW ?_;refine aQ 12 (v:=.int .i64 hi) ?_ (hy:=KE);refine aQ 13 ?_
  all_goals
   refine aY 15 fun n c=> ?_;go_simp;refine c.out _ _ (((L5 _ w).alloc (L6 _) _ |>.cell (p:=⟨B,2,none⟩) S.1).trans c2) ?_;clear c n f;refine fun f=>aW ?_;refine ay ?_ _;clear f;refine⟨Z,(ac.alloc _).drew.drew,At.new (W:=w) _ Z Z,At.new (W:=w) _ Z Z,Co.of_below (((L5 _ w).alloc (L6 _) _).drew.drew),IK⟩
 rintro a' J⟨rfl,a0,c4,d0,F,d1⟩;clear c0 c1 c2 c3 a P;obtain⟨a,P,-,-,-,c3,-,cM,f3,cS⟩:=a0.ats;have d9:=H a0;have e8:=H F;have da:=H c4;have dc:=H d0;have gX:=H cM;have i3:=H cS;clear a0 F cM cS;obtain⟨p0,-⟩:=c4;obtain⟨p1,-⟩:=d0;by_cases d2:hi<=lo
 ·go_wp2_with fail;exact Lo (NH Z _ _ _) Z ⟨by(try rw[L9 d2]);rfl,by(try rw[L9 d2]);exact d9.o,e8.o⟩
 have d3:cW b.bl (lo,hi)=true:=bm.2 ⟨b7.canon,by have:=e7.o;have:=d8.o;dsimp only;omega⟩;have cT:=H d3;have g4:0<=lo/\off<=lo/\b.rd<=lo:=by have:=e7.o;omega
 have g5:hi<=off+s.size/\hi<=b.rd+b.ring.length:=by have:=d8.o;omega
 clear d3;go_wp2_with fail;refine az (fun w':World=>w'.cell? ⟨B,3,none⟩=some (.slice a b.bl.length P)/\w'.cell? w.heap.size=some (.int .i64 lo)/\w'.cell? ⟨w.heap.size,1,none⟩=some (.int .i64 hi)) (⟨c3.1,p0,p1⟩) fun f=>?_;refine aA 0 1 2 3 ?_;refine aQ 4 ?_;refine aY 5 fun n c=> ?_;go_simp;refine(qB J.drew J.heap.size a P b.bl (lo,hi) (gX.below (L5 _ _).drew) (L6 _)).mono ?_;rintro e t⟨v,rfl,ho,r⟩;have d4:=d9.drew.below r;have q0:=da.below (W':=t) ((L5 _ J).drew.trans r) (show w.heap.size<J.heap.size by omega);have q1:=dc.below (W':=t) ((L5 _ J).drew.trans r) (show w.heap.size<J.heap.size by omega);obtain⟨va,vc,hv,u,-,a3⟩:=ho.at (bX (cj cT.o).1);subst hv;have f4:=c3.below (W':=t) ((L5 _ J).drew.trans r) (show B<J.heap.size by have:=d9.lt;omega);go_simp;refine c.out _ _ (⟨f4.1,q0.1,q1.1⟩) ?_;clear c n f;refine fun f=>aW ?_;refine aQ 6 ?_;refine ay ?_ _;clear f;have di:=H d4;have cV:=H q0;have cX:=H q1;have f5:=H u;have ft:=d9.lt;have b8:=H (show tN B R lb (bs b.bl (lo,hi)) va from⟨fun l e=>(a3 l e).2.2,fun _ l e=>by have:=(a3 l e).1;have h2:J.heap.size<=l.block:=this;have:=e8.size;omega⟩);have aC:=H (e8.trans (Co.of_below (B:=B) (R:=R) ((L5 _ J).drew.trans r)));have f1:w.heap.size+1<=t.heap.size:=La d1 r.size;have g6:J.heap.size<=t.heap.size:=r.size;have e9:=H (fun k (hk:k<(bs b.bl (lo,hi)).length)=>zk cT.o hk);have f6:=H (bX (cj cT.o).1);clear d4 q0 q1 u a3 ho c3 f4 p0 p1 r d1;generalize f7:bs b.bl (lo,hi)=gs at e9 f5 b8 f6|-;have dk:=H f7;clear f7;have g2:=f6.o;go_wp2_with fail
 go_loopw [47] (fun p wr=>∃k:Nat,k<=gs.length/\p= .int .i64 k/\ao B R lb { b with ring:=bp b.ring off s.data.toList (gs.take k) } wr/\At w.heap.size 0 (.int .i64 lo) wr/\At w.heap.size 1 (.int .i64 hi) wr/\sT wr t.heap.size va gs/\Co B R w wr/\t.heap.size<=wr.heap.size) (fun p _=>gs.length-(intOf p).toNat)
 case atStart=>exact⟨0,LZ _,Z,di.o,cV.o,cX.o,f5.o,aC.o,L6 _⟩
 case round =>
  obtain⟨k,hk,rfl,d5,a4,a9,u,F,d6⟩:=hrel;have V:=H d5;have cV:=H a4;have cX:=H a9;have HV:=H u;have f8:=H F;by_cases b5:k<gs.length
  ·obtain⟨vb,vo,f9,g3,d7⟩:=u.cells O;have ea:=b8.2 O _ f9;subst f9;obtain⟨g0,g1⟩:=d7 k b5;obtain⟨b1,b2,b3⟩:=e9.o k b5;obtain⟨G,fa⟩:=M2 (show 0<=gs[k].1 by omega);obtain⟨i,e0⟩:=M2 (show 0<=gs[k].1-off by omega);obtain⟨j,fb⟩:=M2 (show 0<=gs[k].2-off by omega);have g7:=H (ro (rg:=b.ring) (off:=off) (s:=s.data.toList) b5);have g8:=H (zl s off gs[k] i j e0 fb);have g9:=H (show gs[k].1.toNat=G by omega);have K:(bp b.ring off s.data.toList (gs.take k)).length=b.ring.length:=ua k4 (fun g hg=>by obtain⟨x,hx,rfl⟩:=Nm.1 (Nl hg);have:=e9.o x hx;omega);have h0:i<=j:=by omega
   have h3:j<=s.size:=O
   have h4:j-i<=b.ring.length:=O
   have ga:G<=4611686018427387904:=O
   generalize gs[k]=gk at *;obtain⟨i4,T⟩:=gk;dsimp only at g0 g1 b1 b2 b3 fa e0 fb;subst fa;have eb:(k:Int)<(gs.length:Int):=O
   have ir:w.heap.size<wr.heap.size:=O
   clear d5 a4 a9 u F d7;go_wp2_with fail;have e1:=(V.alloc (.cells #[(G:Int),T] 149)).drew;have bI:=H e1;have z0:At wr.heap.size 0 (G:Int) (wr.alloc (.cells #[(G:Int),T] 149)).drew:=At.new (W:=wr) _ Z Z;have z1:At wr.heap.size 1 T (wr.alloc (.cells #[(G:Int),T] 149)).drew:=At.new (W:=wr) _ Z Z;clear e1;refine az (fun w':World=>w'.cell? wr.heap.size=some ((G:Int):Y)/\w'.cell? ⟨wr.heap.size,1,none⟩=some (T:Y)) (⟨z0.1,z1.1⟩) fun f=>?_;refine aA 0 1 2 3 ?_;refine aM 4 5 ?_;refine aQ 6 ?_;refine aQ 7 (v:=.int .i64 (i:Int)) ?_ (hy:=by intro w m;(obtain⟨y0,X⟩:=m);go_simp;(exact LF (i:Int) ⟨O,O⟩));refine aM 8 9 ?_;refine aQ 10 ?_;refine aQ 11 (v:=.int .i64 (j:Int)) ?_ (hy:=by intro w m;(obtain⟨y0,X⟩:=m);go_simp;(exact LF (j:Int) ⟨O,O⟩));refine aQ 12 (v:=.string (s.extract i j)) ?_ (hy:=by intro w m;(obtain⟨y0,X⟩:=m);go_simp;(first | done | skip));refine aY 13 fun n c=> ?_;go_simp;refine(xA B R (bp b.ring off s.data.toList (gs.take k)) G (s.extract i j) (wr.alloc (.cells #[(G:Int),T] 149)).drew (by obtain⟨_,_,h,_⟩:=bI.ats;exact h.1) bI.2.1 bI.1 (by rw[K];exact k4) (by rw[K];exact k3) (by rw[NO,K];omega) ga).mono ?_;rintro e W3⟨rfl,e2,q⟩;go_simp;refine c.out _ _ (⟨mG q z0.1 (by have:=V.lt;omega),mG q z1.1 (by have:=V.lt;omega)⟩) ?_;clear c n f;refine fun f=>aW ?_;refine ay ?_ _;clear f z0 z1;have I:Co B R wr (wr.alloc (.cells #[(G:Int),T] 149)).drew:=Co.of_below ((L5 _ wr).alloc (L6 _) _).drew;have b9:=bI.ring (rg:=dH (bp b.ring off s.data.toList (gs.take k)) G (s.extract i j).data.toList) (by rw[eW _ _ _ (by rw[K];exact k4) (by rw[<-Lib.size_eq,NO,K];omega)]) e2 q;have cY:w.heap.size≠R:=O
   have e5:=V.lt;have y0:=((cV.alloc (.cells #[(G:Int),T] 149)));have X:=((cX.alloc (.cells #[(G:Int),T] 149)))
   have gc:Hid (ao B R lb { b with ring:=bp b.ring off s.data.toList (gs.take (k+1)) } W3/\At w.heap.size 0 (.int .i64 lo) W3/\At w.heap.size 1 (.int .i64 hi) W3/\sT W3 t.heap.size (some ⟨vb,vo,none⟩) gs/\Co B R w W3/\t.heap.size<=W3.heap.size):=by
    refine⟨?_,y0.Dj q.F2 cY,X.Dj q.F2 cY,?_,f8.trans (I.trans (Co.Iw q)),?_⟩
    ·rw[g7.o,g9.o,<-g8.o];exact b9
    ·refine sT.Dj (HV.below ((L5 _ wr).alloc d6 _)) q.F2 IM (fun _ l e=>by cases e;exact ea.2.1)
    have:=q.size;simp at this;omega
   clear b9 y0 X q e2 I;go_wp2_with fail
   go_roundw
   case rel=>exact⟨k+1,O,IP,gc.out⟩
   case measure=>simp[intOf];omega
  obtain rfl:k=gs.length:=O
  rw[LV]at V;obtain⟨a2,e6,-,-,-,n3,n4,c5,c6,-⟩:=V.ats;obtain⟨gd,gg⟩:=n4;obtain⟨gj,gl⟩:=cV.o;obtain⟨gm,gw⟩:=cX.o;have iv:=V.lt;have gx:w.heap.size<wr.heap.size:=O
  have HN:=H (V.set (b':={ b with ring:=bp b.ring off s.data.toList gs,nw:=lo }) 4 (.int .i64 lo) Z Z (fun _ _=>rfl));have gy:=H (n3.other ⟨B,4,none⟩ (.int .i64 lo) IK);have ec:=H c5;have ed:=H n3;clear c5 n3 d5 a4 a9 u F;go_wp2_with fail;have ba:=H (f8.trans (Co.Hj (R:=R) (((nF.refl B wr).setCell 4 (.int .i64 lo)))));have da:=H (cV.ob (C:=B) (j:=4) (.int .i64 lo) O);have dc:=H (cX.ob (C:=B) (j:=4) (.int .i64 lo) O);have hA:=H (sT.Dj HV.o ((nF.refl B wr).setCell 4 (.int .i64 lo)) d6 (fun hp l e=>(b8.2 hp l e).1));have h5:(wr.setCell ⟨B,4,none⟩ (.int .i64 lo)).heap.size=wr.heap.size:=by simp[World.setCell]
  generalize wr.setCell ⟨B,4,none⟩ (.int .i64 lo)=W5 at *;obtain⟨a5,eg,-,-,-,m3,-,fd,fe,j1⟩:=HN.ats;have ei:=H fd;have j2:=H m3;obtain⟨hE,j3⟩:=m3;obtain⟨ff,j4⟩:=da.o;obtain⟨fk,j5⟩:=dc.o;dsimp only at hE fe;clear fd gj gl gm gw gd gg gy ec ed c6;refine az (fun w':World=>w'.cell? w.heap.size=some (.int .i64 lo)/\w'.cell? ⟨w.heap.size,1,none⟩=some (.int .i64 hi)) (⟨ff,fk⟩) fun f=>?_;refine aA 0 1 2 3 ?_;refine aQ 5 ?_;refine aY 4 fun n c=> ?_;go_simp;refine c.out _ _ (⟨ff,fk⟩) ?_;clear c n f;refine fun f=>aW ?_;refine aY 6 fun n c=> ?_;go_simp;refine(zj W5.drew W5.heap.size a5 eg b.bl (lo,hi) (ei.below (L5 _ _).drew) (L6 _) fe).mono ?_;rintro e W6⟨v,rfl,ho,av⟩;have aF:Below W5.heap.size W5 W6:=(L5 _ W5).drew.trans av;have r0:=da.below (W':=W6) aF O;have r1:=dc.below (W':=W6) aF O;obtain⟨c7,c8,hv,c9,b0,b4⟩:=ho.at (bX (i6 cT.o).1);subst hv;have el:=HN.below aF;obtain⟨_,_,-,-,-,⟨hF,hG⟩,-⟩:=el.ats;go_simp;refine c.out _ _ (⟨r0.1,r1.1⟩) ?_;clear c n f;refine fun f=>aW ?_;refine aM 7 8 ?_;have j6:w.heap.size≠B:=O
  refine aY 9 fun n c=> ?_;go_simp;refine c.out _ _ (⟨(r0.ob _ O).1,(r1.ob _ O).1⟩) ?_;clear c n f;refine fun f=>aW ?_;refine ay ?_ _;clear f;have bc:=H (el.FU c7 c8 (fJ b.bl (lo,hi)) c9 b0 ⟨fun l e=>(b4 l e).2.2,fun _ l e=>by have h1:=(b4 l e).1;have h2:W5.heap.size<=l.block:=h1;have:=ba.size;omega⟩ (fun _=>ho.ty));have dl:=H ((ba.trans (Co.of_below aF)).trans (Co.Hj (R:=R) ((nF.refl B W6).setCell 3 (.slice c7 (fJ b.bl (lo,hi)).length c8))));have b6:=H (sT.Dj (hA.below (aF.mono O)) ((nF.refl B W6).setCell 3 (.slice c7 (fJ b.bl (lo,hi)).length c8)) (by have:=aF.size;omega) (fun hp l e=>(b8.2 hp l e).1));have hH:W5.heap.size<=(W6.setCell ⟨B,3,none⟩ (.slice c7 (fJ b.bl (lo,hi)).length c8)).heap.size:=by simp[World.setCell];exact aF.size
  clear r0 r1 el c9 b4 hF hG av aF ho
  obtain⟨x,y,I⟩:∃x y,fJ b.bl (lo,hi)=x::y:=by
   have hm:=(i6 cT.o).2 lo
   cases hc:fJ b.bl (lo,hi)with
   | nil=>rw[hc]at hm;exact(a8 (hm.2 (.inl ⟨Lb _,IN⟩))).elim
   | cons x y=>exact⟨x,y,Z⟩
  have fl:=H I;rw[I]at bc dl b6 hH b0|-;clear I;generalize W6.setCell ⟨B,3,none⟩ (.slice c7 (x::y).length c8)=W7 at *;obtain⟨a7,a1,-,-,⟨em,jv⟩,⟨ca,kS⟩,-,en,fm,hI⟩:=bc.ats;obtain⟨z,A,eo,h6,fn⟩:=en.cells IK;have a6:=hI.2 IK _ eo;have cb:=bc.typed ca IK _ eo;subst eo;obtain⟨x0,x1⟩:=fn 0 IK;obtain⟨X,E⟩:=x;simp only[Nr,Nu,MF]at x0 x1;have er:=H en;dsimp only at em ca fm;simp only[LC]at ca fm b0|-;clear fn en;have hJ:=H (show lo<hi from O);by_cases cf:X=b.nx
  ·subst cf;go_wp2_with fail;refine az (fun w':World=>w'.cell? ⟨B,2,none⟩=some (b.nx:Y)/\w'.cell? ⟨B,3,none⟩=some (.slice (some ⟨z,A,none⟩) (y.length+1) a1)/\w'.cell? ⟨z,A,none⟩=some (b.nx:Y)) (⟨em,ca,x0⟩) fun f=>?_;refine aA 0 1 2 3 ?_;refine aA 4 5 6 7 ?_;refine aA 8 9 10 11 ?_;refine aA 12 13 14 15 ?_;refine aA 16 17 18 19 ?_;refine ay ?_ _;clear f;have cg:=er.tail;by_cases h7:a1=1
   focus
    obtain rfl:y=[]:=LU O;have cf:=True.intro;have am:sT W7 W7.heap.size (some ⟨z,A,none⟩) []:=⟨IK,fun h=>by simp at h⟩;have dn:=H ((bc.set (b':={ ring:=bp b.ring off s.data.toList gs,rd:=b.rd,nx:=E,bl:=(b.nx,E)::[],nw:=lo }) 2 E Z Z (fun _ _=>rfl)).FU (some ⟨z,A,none⟩) 0 [] PM (by first | omega | simp) ⟨fun l e=>by cases e;rfl,fun _ l e=>by cases e;exact a6⟩ (fun _ l e=>by cases e;exact cb.of (Md _ _ _ _ a6.1)));have dp:=H (dl.trans (Co.Hj (R:=R) (((nF.refl B W7).setCell 2 E).setCell 3 (.slice (some ⟨z,A,none⟩) 0 0))));have ds:=H (sT.Dj b6.o (((nF.refl B W7).setCell 2 E).setCell 3 (.slice (some ⟨z,A,none⟩) 0 0)) O (fun hp l e=>(b8.2 hp l e).1));have dv:t.heap.size<=((W7.setCell ⟨B,2,none⟩ E).setCell ⟨B,3,none⟩ (.slice (some ⟨z,A,none⟩) 0 0)).drew.heap.size:=by simp[World.setCell];omega
   rotate_left 1
   focus
    have cf:=True.intro;have am:sT W7 W7.heap.size (some ⟨z,A+2,none⟩) y:=cg;have dn:=H ((bc.set (b':={ ring:=bp b.ring off s.data.toList gs,rd:=b.rd,nx:=E,bl:=(b.nx,E)::y,nw:=lo }) 2 E Z Z (fun _ _=>rfl)).FU (some ⟨z,A+2,none⟩) (a1-1) y PM (by first | omega | simp) ⟨fun l e=>by cases e;rfl,fun _ l e=>by cases e;exact a6⟩ (fun _ l e=>by cases e;exact cb.of (Md _ _ _ _ a6.1)));have dp:=H (dl.trans (Co.Hj (R:=R) (((nF.refl B W7).setCell 2 E).setCell 3 (.slice (some ⟨z,A+2,none⟩) y.length (a1-1)))));have ds:=H (sT.Dj b6.o (((nF.refl B W7).setCell 2 E).setCell 3 (.slice (some ⟨z,A+2,none⟩) y.length (a1-1))) O (fun hp l e=>(b8.2 hp l e).1));have dv:t.heap.size<=((W7.setCell ⟨B,2,none⟩ E).setCell ⟨B,3,none⟩ (.slice (some ⟨z,A+2,none⟩) y.length (a1-1))).drew.heap.size:=by simp[World.setCell];omega
   all_goals
    clear am;clear cg;go_wp2_with fail;refine(eh _ t.heap.size va vc gs (ds.below (L5 _ _).drew) dv).mono ?_;rintro e W9⟨rfl,L⟩;have ch:=H ((L5 _ _).drew.trans L);clear L;go_wp2_with fail;refine Lo (NH Z _ _ _) Z ⟨?_,?_,dp.trans (Co.of_below ch.o)⟩
    ·rw[dk.o];rfl
    have:=dn.below ch.o;unfold Bx.ES;rw[dk.o,fl.o]
    simpa[ez,gR,cf]using this
  go_wp2_with fail;refine az (fun w':World=>w'.cell? ⟨B,2,none⟩=some (b.nx:Y)/\w'.cell? ⟨B,3,none⟩=some (.slice (some ⟨z,A,none⟩) (y.length+1) a1)/\w'.cell? ⟨z,A,none⟩=some (X:Y)) (⟨em,ca,x0⟩) fun f=>?_;refine aA 0 1 2 3 ?_;refine aA 4 5 6 7 ?_;refine aA 8 9 10 11 ?_;refine aA 12 13 14 15 ?_;refine aA 16 17 18 19 ?_;refine ay ?_ _;clear f;have dn:=bc;have dp:=dl;have ds:=b6;have dv:t.heap.size<=W7.drew.heap.size:=by show t.heap.size<=W7.heap.size;omega
  go_wp2_with fail;refine(eh _ t.heap.size va vc gs (ds.below (L5 _ _).drew) dv).mono ?_;rintro e W9⟨rfl,L⟩;have ch:=H ((L5 _ _).drew.trans L);clear L;go_wp2_with fail;refine Lo (NH Z _ _ _) Z ⟨?_,?_,dp.trans (Co.of_below ch.o)⟩
  ·rw[dk.o];rfl
  have:=dn.below ch.o;unfold Bx.ES;rw[dk.o,fl.o]
  simpa[ez,gR,cf]using this
end
section
set_option maxRecDepth 100000
open Go.RowKit Go.Shelf
theorem mI:(Tryz.prog.info? 5).map (fun i=>(i.zero,i.size,i.bytes))=some (some (.int .u8 0),1,1):=by kernel_rfl
theorem iR {w:World}{base g n cap:Nat}{rg:List UInt8}(h:w.ownsRow base 5 1 (.slice (some ⟨g,0,none⟩) n cap) n (Lib.byteCells rg))(d:cap=n):bR g rg w:=by
 rcases h.2 with⟨e,_⟩ | ⟨j,c,f,e,_,i,_,_,a,b⟩
 ·cases e
 cases e
 subst d;rw[Nat.mul_one]at a b;rw[Mf (by rw[NX];omega)]at b;unfold bR;rw[i,<-b]
theorem zn (n:Nat) (h1:1<=n) (h2:n<=8192) (w:World) :
  Calls Tryz.prog 61 #[.int .i64 n] w fun e w'=>∃B R,e= .returned (.tuple #[.pointer (some ⟨B,0,none⟩),(0:Int)])/\(∀lb,ao B R lb (nM n) w')/\Below w.heap.size w w'/\w.heap.size<=B/\w.heap.size<=R:=by
 obtain⟨q,hi,c,d,f⟩:=MJ mI
 go_enter Tryz.func61,Tryz.ntmps61
 go_wp2_with (first | (at_make;refine wpList_make_full _ Z _ _ _ Z w.heap.size 5 q _ 1 Tryz.underlying72 hi c d _ _ _ _ n Z Z Z Z (by rw[f];omega) J2 (L6 _) ?_))
 intro g a b
 have m:bR w.heap.size (List.replicate n 0) g:=by
  refine iR (base:=w.heap.size) (n:=n) (cap:=n) ?_ Z
  have e:(madeCells #[Value.int .u8 0] n).toList=Lib.byteCells (List.replicate n 0):=by
   apply List.ext_getElem
   ·simp[madeCells,Lib.byteCells]
   intro i h1 h2
   simp[madeCells,Lib.byteCells,Nat.mod_one]
  rw[<-e];exact a
 have j:=(MH a w.heap.size Z).2;have p:Below w.heap.size w g:=aR b (L6 _) (fun k e=>by cases e);have r:=H m;have l:=H p;clear a b m p;go_wp2_with fail;refine Lo (NH Z _ _ _) Z ⟨g.heap.size,w.heap.size,Z,fun lb=>⟨O,?_,none,0,?_,⟨⟨by simp[nM],fun h=>by simp[nM]at h⟩,fun h=>by simp[nM]at h⟩,by simp[nM],fun s e=>IZ,fun h=>by simp[nM]at h⟩,l.alloc l.size _,l.size,L6 _⟩
 ·unfold bR;rw[Mh _ _ _ j];exact r.o
 rw[Ls];unfold i9 nM
 simp
theorem xF (n:Nat)(h1:1<=n)(h2:n<=8192):(nM n).Ok:=by
 have e:(nM n).ring.length=n:=by simp[nM]
 refine⟨O,O,Lb _,Lb _,?_,?_,Z,fun i hi=>(a8 hi).elim⟩
 ·rw[e];show(0:Int)<=0+n;omega
 rw[e];show(0:Int)+n<=_;omega
theorem li (B R lb:Nat)(b:Bx)(w:World)(h:ao B R lb b w)(ok:b.Ok) :
  Calls Tryz.prog 50 #[B] w fun e w'=>e= .returned (b.nx-b.rd:Int)/\w'=w.drew:=by
 obtain⟨a,c,-,⟨d,-⟩,⟨f,-⟩,-⟩:=h.ats;have h1:=ok.E1;have h2:=ok.small;have g:=ok.most;have i:=ok.Cv;have j:=ok.Du
 go_enter Tryz.func50,Tryz.ntmps50
 go_wp2
 go_region
 all_goals
  go_wp2
  go_ret;exact⟨Z,Z⟩
theorem xG (B R lb:Nat)(b:Bx)(w:World)(h:ao B R lb b w)(ok:b.Ok) :
  Calls Tryz.prog 141 #[B] w fun e w'=>e= .returned (b.rd+b.ring.length-b.nx:Int)/\w'=w.drew.drew:=by
 obtain⟨a,c,-,-,⟨d,-⟩,-⟩:=h.ats;have h1:=ok.E1;have h2:=ok.small;have f:=ok.most;have g:=ok.Cv;have i:=ok.Du;have hw:=LF (b.rd+(b.ring.length:Int)-b.nx) ⟨O,O⟩
 go_enter Tryz.func141,Tryz.ntmps141
 go_wp2_with fail
 go_region_with (first | (go_at_call 174;refine(oj B R lb b _ h.drew ok).mono ?_;rintro e w' ⟨rfl,rfl⟩))
 all_goals
  go_wp2;go_ret;exact⟨Z,Z⟩
end
section
set_option maxRecDepth 100000
open Go.RowKit Go.Shelf
theorem kY {W:World}{g:Nat}{rg:List UInt8}(h:bR g rg W)(j:Nat)(a:j<rg.length):W.cell? ⟨g,j,none⟩=some (.int .u8 (rg[j].toNat:Int)):=by
 rw[Lq _ _ _ _ _ _ h]
 simp[Lib.byteCells,a]
theorem n8 {W:World}{g:Nat}{rg:List UInt8}(h:bR g rg W)(n cap:Nat)(a:rg.length=n):(convert 72 9 (.slice (some ⟨g,0,none⟩) n cap)).run Tryz.prog W= .ok (.string ⟨rg.toArray⟩) W:=by
 subst a;refine run_convert_bytes_back _ _ _ 5 _ _ rg Tryz.underlying72 Tryz.underlying5 Tryz.underlying9 fun j b=> ?_;rw[Mw,MQ];exact kY h j b
theorem ja (z:List UInt8)(o:Nat)(cs:List UInt8):splice (Lib.byteCells z) o (Lib.byteCells cs)=Lib.byteCells (fY z o cs):=by
 rw[fC,splice,Lib.byteCells_length,LO]
theorem qG {W:World}{g:Nat}{rg:List UInt8}(h:bR g rg W)(o m:Nat):∀j v,(Lib.byteCells ((rg.drop o).take m))[j]? =some v->W.cell? ((⟨g,o,none⟩:Addr).add j)=some v:=by
 intro j v a;rw[Mw]
 have b:j<((rg.drop o).take m).length:=by
  rcases Nat.lt_or_ge j ((rg.drop o).take m).length with h1 | h1
  ·exact h1
  rw[N4 (by rw[Lib.byteCells_length];exact h1)]at a;cases a
 rw[Lg,Lt]at b;rw[kY h (o+j) O];rw[<-a];simp only[Lib.byteCells,List.getElem?_map];rw[M5 O,MZ,Nd O];rfl
theorem xH (rg:List UInt8)(o q m:Nat)(e:o<rg.length)(f:q<=rg.length)(g:m=min (rg.length-o) q) :
  fY (fY (List.replicate q 0) 0 ((rg.drop o).take m)) m (rg.take (q-m))=(rg.drop o).take q++rg.take (q-(rg.length-o)):=by
 have a:((rg.drop o).take m).length=m:=by rw[Lg,Lt];omega
 have b:(rg.take (q-m)).length=q-m:=IX
 have c:fY (List.replicate q 0) 0 ((rg.drop o).take m)=(rg.drop o).take m++List.replicate (q-m) 0:=by
  unfold fY;rw[a,Nv,LG,MQ,List.drop_replicate]
 have d:((rg.drop o).take m++List.replicate (q-m) 0).drop (m+(q-m))=[]:=List.drop_eq_nil_of_le (by rw[Lc,a,Mx];omega);rw[c];unfold fY;rw[List.take_left' a,b,d,LP,show q-(rg.length-o)=q-m by omega]
 congr 1
 by_cases h:q<=rg.length-o
 ·rw[show m=q by omega]
 rw[show m=rg.length-o by omega,Mf JO,Mf JO]
set_option maxHeartbeats 4000000 in
theorem xI (B R lb:Nat) (b:Bx) (k:Int) (w:World) (h:ao B R lb b w) (ok:b.Ok) :
  Calls Tryz.prog 91 #[B,k] w fun e w'=>e= .returned (.string ⟨(b.ox k).toArray⟩)/\ao B R lb (b.take k) w'/\nF B w w':=by
 have g:=H h;have b7:=H ok;have k1:=ok.E1;have k2:=ok.small;have k3:=ok.most;have k4:=ok.one;have k5:=ok.Cv;have k6:=ok.Du;clear h ok;by_cases hz:min k (b.nx-b.rd)<=0
 ·have x:=H (show b.ox k=[]/\b.take k=b from⟨by unfold Bx.ox;rw[L9 hz],by unfold Bx.take;rw[L9 hz]⟩);rw[x.1,x.2];by_cases hk:b.nx-b.rd<k
  all_goals
   go_enter Tryz.func91,Tryz.ntmps91
   go_wp2_with fail;refine(li B R lb b _ g.o b7.o).mono ?_;rintro e w1⟨rfl,rfl⟩;have M:k<=0\/b.nx-b.rd<=0:=O
   (first | (have h1:b.nx-b.rd<=0:=O) | (have h1:k<=0:=O))
   clear hz M;go_wp2;go_ret;exact⟨Z,g.drew,(nF.refl _ _).drew⟩
 obtain⟨q,N⟩:=M2 (show 0<=min k (b.nx-b.rd) by omega);have x:=H (show b.ox k=iG b.ring b.rd.toNat q/\b.take k={ b with rd:=b.rd+q }from⟨by unfold Bx.ox;rw[L7 hz,N];try rfl,by unfold Bx.take;rw[L7 hz,N];try rfl⟩);rw[x.1,x.2];obtain⟨r,hr⟩:=M2 k1;have y:b.rd=(r:Int):=hr;have a0:1<=q:=O
 have z:q<=b.ring.length:=O
 obtain⟨n,J⟩:∃n,n=b.ring.length:=⟨_,Z⟩;have bd:(r:Int).tmod (n:Int)=((r%n:Nat):Int):=by rw[ML O];rfl
 obtain⟨o,K⟩:∃o,o=r%n:=⟨_,Z⟩;have hK:o<n:=by rw[K];exact Ng _ O
 rw[<-K]at bd;have fo:=H (show b.rd.toNat%b.ring.length=o by rw[K,y,J];try rfl);obtain⟨i0,hi,P,S,T⟩:=MJ mI;have HH:Hid (∀v:Int,v=(q:Int)->True):=fun _ _=>trivial;clear HH;by_cases hk:b.nx-b.rd<k
 all_goals
  (first | (have hv:b.nx-(r:Int)=(q:Int):=O) | (have hv:k=(q:Int):=O))
  have f:=H J;rw[<-J]at k2 k3 k4 k6 z;have a1:n≠o:=O
  have hM:o<=n:=O
  have a2:n≠0:=O
  have k0:¬((q:Int)<=0):=O
  clear hz N hr K J
  go_enter Tryz.func91,Tryz.ntmps91
  go_wp2_with fail;refine(li B R lb b _ g.o b7.o).mono ?_;rintro e w1⟨rfl,rfl⟩
  go_wp2_with (first | (at_make;refine wpList_make_full _ Z _ _ _ Z w.heap.size 5 i0 _ 1 Tryz.underlying72 hi P S _ _ _ _ q Z Z Z Z (by rw[T];omega) J2 (L6 _) ?_))
  intro w2 c A;have eb:=(MH c w.heap.size Z).2
  have C:bR w.heap.size (List.replicate q 0) w2:=by
   refine iR (base:=w.heap.size) (n:=q) (cap:=q) ?_ Z
   have e:(madeCells #[Value.int .u8 0] q).toList=Lib.byteCells (List.replicate q 0):=by
    apply List.ext_getElem
    · simp[madeCells,Lib.byteCells]
    · intro i h1 h2
      simp[madeCells,Lib.byteCells,Nat.mod_one]
   rw[<-e];exact c
  have j:Below w.heap.size w w2:=(L5 _ w).drew.trans (aR A (L6 _) (fun k e=>by cases e));have l:=g.below j;obtain⟨a,cap,⟨U,-⟩,⟨V,f1⟩,-⟩:=l.ats;rw[<-f.o]at U;rw[y]at V;have fp:=H C;have b5:=H j;have di:=H l;have a5:=g.lt;clear c A C j l;obtain⟨m,hm⟩:∃m,m=min (n-o) q:=⟨_,Z⟩;have k7:m<=q:=O
  have HM:=H hm;have hO:=H (show(Lib.byteCells ((b.ring.drop o).take m)).length=Nat.min (n-o) q by rw[Lib.byteCells_length,Lg,Lt,<-f.o];show _=min _ _;omega);have cl:=H (show(Lib.byteCells (b.ring.take (q-m))).length=Nat.min n (q-m) by rw[Lib.byteCells_length,Lg,<-f.o];show _=min _ _;omega);have hP:=H (show(Lib.byteCells ((b.ring.drop o).take m)).length=m by rw[Lib.byteCells_length,Lg,Lt,<-f.o];omega);clear hm;go_wp2_with fail;refine az (fun w':World=>w'.cell? B=some (.slice (some ⟨R,0,none⟩) n n)/\w'.cell? ⟨B,1,none⟩=some ((r:Int):Y)) (⟨U,V⟩) fun p=>?_;refine aA 0 1 2 3 ?_;refine aA 4 5 6 7 ?_;refine aA 8 9 10 11 ?_;refine aA 12 13 14 15 ?_;refine aY 16 fun W d=> ?_;refine step_copy_splice Z _ _ _ _ Z 5 Tryz.underlying72 IL (some ⟨w.heap.size,0,none⟩) (some ⟨R,o,none⟩) q q (n-o) (n-o) Z Z w.heap.size 0 (Lib.byteCells (List.replicate q 0)) 5 fp.o (Lib.byteCells ((b.ring.drop o).take m)) hO.o (fun _=>⟨Z,_,Z,qG di.2.1 o m⟩) (by rw[Lib.byteCells_length,Lib.byteCells_length,Lg,Mx];omega) (Lib.byteCells_one _) w.heap.size w b5.drew (L6 _) ?_;intro w3 E s;rw[hP.o];have t:=g.below s;obtain⟨a3,hQ,⟨d0,-⟩,⟨d1,g1⟩,-⟩:=t.ats;rw[<-f.o]at d0;rw[y]at d1;refine d.out _ _ (⟨d0,d1⟩) ?_;clear d W p;refine fun p=>aW ?_;refine aQ 17 ?_;refine ay ?_ _;clear p U V f1;have fq:=H (show bR w.heap.size (fY (List.replicate q 0) 0 ((b.ring.drop o).take m)) w3 from by have:=E.out;rw[ja]at this;exact this);have an:=H s;have bI:=H t;clear E s t;go_wp2_with fail;refine az (fun w':World=>w'.cell? B=some (.slice (some ⟨R,0,none⟩) n n)) (d0) fun p=>?_;refine aA 0 1 2 3 ?_;refine aM 4 5 ?_;refine aQ 6 ?_;refine aY 7 fun W d=> ?_;refine step_copy_splice Z _ _ _ _ Z 5 Tryz.underlying72 IL _ (some ⟨R,0,none⟩) (q-m) (q-m) n n Z Z w.heap.size m (Lib.byteCells (fY (List.replicate q 0) 0 ((b.ring.drop o).take m))) 5 fq.o (Lib.byteCells (b.ring.take (q-m))) cl.o (fun hp=>⟨by rw[cl.o]at hp;have a6:0<min n (q-m):=hp;simp;omega,_,Z,by have:=qG bI.2.1 0 (q-m);rw[MK]at this;exact this⟩) (by rw[Lib.byteCells_length,Lib.byteCells_length,Lg,dQ _ _ _ (by rw[Lg,Mx,Lt];omega),Mx];omega) (Lib.byteCells_one _) w.heap.size w an.drew (L6 _) ?_;intro L F u;have X:=g.below u;obtain⟨a4,hS,⟨u0,-⟩,⟨u1,k8⟩,-⟩:=X.ats;rw[<-f.o]at u0;rw[y]at u1;refine d.out _ _ (u0) ?_;clear d W p;refine fun p=>aW ?_;refine ay ?_ _;clear p
  have fr:bR w.heap.size (iG b.ring b.rd.toNat q) L:=by
   have:=F.out;rw[ja,xH _ _ _ _ (by rw[<-f.o];exact hK) (by rw[<-f.o];exact z) (by rw[<-f.o];exact HM.o)]at this;unfold bR iG;rw[fo.o];exact this
  have G:(iG b.ring b.rd.toNat q).length=q:=by
   unfold iG;rw[fo.o,Lc,Lg,Lt,Lg,<-f.o];omega
  have I:∀v:Value,(convert 72 9 (.slice (some ⟨w.heap.size,0,none⟩) q q)).run Tryz.prog (L.setCell ⟨B,1,none⟩ v)= .ok (.string ⟨(iG b.ring b.rd.toNat q).toArray⟩) (L.setCell ⟨B,1,none⟩ v):=fun v=>n8 (by unfold bR;rw[Md L ⟨B,1,none⟩ _ v (by show w.heap.size≠B;omega)];exact fr) q q G;have hT:=I ((r:Int)+(q:Int):Int);have es:=H (X.set (b':={ b with rd:=b.rd+q }) 1 (b.rd+q:Int) Z Z (fun _ _=>rfl));have ba:=H ((nF.of_below (B:=B) u).setCell 1 (b.rd+q:Int));rw[y]at es ba;clear F u X I fr G fq an bI fp b5 di;go_wp2_with fail
  all_goals
   go_ret
   first
   | exact⟨Z,es.o,ba.o⟩
   | (
     have hV:q=m:=IW
     subst hV;exact⟨Z,es.o,ba.o⟩)
end

structure PI (S:List UInt8)(N:Nat)(b:Bx)(got:List UInt8):Prop where
 ok:b.Ok
 len:S.length=N
 small:N<=1000
 str:b.Str S
 rd:b.rd=got.length
 got:got=S.take got.length
 has:∀i,b.has i->i<N
theorem PI.nx {S:List UInt8}{N:Nat}{b:Bx}{got:List UInt8}(h:PI S N b got):b.nx<=N:=by
 rcases(show b.nx<=N\/(N:Int)<b.nx by omega)with g | g
 ·exact g
 have:=h.has N (.inl O);omega
theorem PI.start {S:List UInt8}{N:Nat}(c:S.length=N)(hs:N<=1000){n:Nat}(h1:1<=n)(h2:n<=8192):PI S N (nM n) []:=by
 refine⟨xF n h1 h2,c,hs,fun i _ b=> ?_,Z,IK,fun i b=> ?_⟩
 ·rcases b with⟨_,g⟩ | g
  ·have:(i:Int)<0:=g;omega
  exact(a8 g).elim
 rcases b with⟨a,g⟩ | g
 ·have:i<0:=g;omega
 exact(a8 g).elim
theorem PI.put {S:List UInt8}{N:Nat}{b:Bx}{got:List UInt8}(h:PI S N b got){off to:Nat}(h1:off<=to)(h2:to<=N){s:List UInt8}(hs:s=(S.drop off).take (to-off)) :
  PI S N (b.put off s) got/\(b.put off s).rd=b.rd/\(b.put off s).ring.length=b.ring.length/\b.nx<=(b.put off s).nx/\(off<=b.nx->b.nx<to->b.nx<b.rd+b.ring.length->b.nx<(b.put off s).nx):=by
 have c:=h.small;have j:=h.len;have a:s.length=to-off:=by rw[hs,Lg,Lt];omega
 obtain⟨p1,d,k,l,f⟩:=Bx.DQ h.ok s (off:=off) O O;refine⟨⟨p1,j,c,?_,d.trans h.rd,h.got,fun i hi=> ?_⟩,d,k,l,fun g1 o m=> ?_⟩
 ·refine h.str.put h.ok s O (fun i p n=> ?_);rw[a]at n;rw[hs,M5 O,MZ]
  congr 1
  omega
 ·rcases(f i).1 hi with g | g
  ·exact h.has i g
  rw[a]at g;omega
 rcases(show b.nx=(b.put off s).nx\/b.nx<(b.put off s).nx by omega)with e | e
 ·exfalso
  apply p1.FS
  rw[<-e];exact(f _).2 (.inr ⟨g1,Jo,m⟩)
 exact e
theorem PI.take {S:List UInt8}{N:Nat}{b:Bx}{got:List UInt8}(h:PI S N b got)(k:Int) :
  PI S N (b.take k) (got++b.ox k)/\(b.take k).nx=b.nx/\(b.take k).ring.length=b.ring.length/\((b.ox k).length:Int)=max 0 (min k (b.nx-b.rd)):=by
 have a:=h.small;have e:=h.len;have f:=h.nx;have h2:=h.ok.Cv;have p:=h.ok.most;obtain⟨q,g,c,j,d,l⟩:=h.str.take h.ok (r:=got.length) h.rd k;obtain⟨m,s,n,o⟩:=b.DG k;refine⟨⟨h.ok.take k (by rw[c];omega),e,a,j,?_,?_,fun i hi=>h.has i ((o i).1 hi)⟩,m,by rw[n],by rw[d];exact g⟩
 ·rw[c,h.rd,Lc,d];omega
 have t:got.length+q<=N:=by have:=h.rd;omega
 apply List.ext_getElem?
 intro i;by_cases h1:i<got.length
 ·rw[Mo h1,M5 Jb]
  conv=>lhs;rw[h.got]
  rw[M5 h1]
 by_cases u:i<got.length+q
 ·rw[Mk O,l _ O,M5 Jb]
  congr 1
  omega
 rw[N4 Jb,N4 (by rw[Lg,Lc];omega)]
theorem PI.EV {S:List UInt8}{N:Nat}{b:Bx}{got:List UInt8}(h:PI S N b got):got.length<=N:=by
 have:=h.rd;have:=h.nx;have:=h.ok.Cv;omega
end Go.Proofs.YtcmncipikdpnbaaGreatDoor
