import Derived.Test.YtcmncipikdpnbaaGreatDoorUb3
import Derived.Test.YtcmncipikdpnbaaGreatDoorUb5
import Derived.Lib.BufferWrite
import Derived.Deep.RegionLaw
import Derived.BigRegion
import Derived.Laws.CopyOwn
import Derived.BigQuiet
import Derived.IntWalk
namespace Go.Proofs.YtcmncipikdpnbaaGreatDoor
section
set_option maxRecDepth 100000
open Go.RowKit Go.Shelf
theorem pC {P:Program}(w:World)(l m ty c:TypeId)(g o a f:Nat)(s:ByteArray)(d:Array Value)(t:TypeId)
  (n:P.underlying l=some (.slice c))(hs:(P.info? c).map (·.size)=some 1)(p:w.heap[g]? =some (.cells d t (0,0)))(h:o+min s.size a<=d.size) :
  (Builtin.copy_ #[l,m] ty #[.slice (some ⟨g,o,none⟩) a f,.string s]).run P w =
   .ok (goInt (min s.size a:Nat)) (w.setRow g (d.toList.take o++Lib.byteCells (s.data.toList.take (min s.size a))++d.toList.drop (o+min s.size a)).toArray):=by
 have hlen:(Lib.byteCells (s.data.toList.take (min s.size a))).length=min s.size a:=by rw[Lib.byteCells_length,Le,<-Lib.size_eq];omega
 have e:=run_storeCells_at P g o t (Lib.byteCells (s.data.toList.take (min s.size a))) 0 d w p (by rw[hlen];simpa using h) (Lib.byteCells_one _)
 have k:List.take (min s.size a) (List.map (fun b:UInt8=>Value.int IntKind.u8 (b.toNat:Int)) s.data.toList)=Lib.byteCells (s.data.toList.take (min s.size a)):=by
  rw[<-List.map_take];rfl
 have j:Nat.min s.size a=min s.size a:=Z;rw[hlen]at e;simp only[Nq]at e
 cases hq:P.info? c with
 | none=>simp[hq]at hs
 | some i =>
  simp[Builtin.copy_,run_underlying n,Builtin.lenOf,Builtin.firstCells,sizeOf,typeInfo,hq,j]
  rw[k,e]
  simp[Result.andThen]
theorem jA {P:Program}{i:Array Oper}{o:Oper}{a:Act}{w:World}{K:Act->World->Prop}{Q:Exit->Act->World->Prop}{E:Prop}(m:o.guard=none)(d s:Operand)(n q:TypeId)
  (ho:o.op= .call { callee:=.builtin .copy,args:= #[d,s],argTypes:= #[n,q] })(e:TypeId)(u:P.underlying n=some (.slice e))(p:(P.info? e).map (·.size)=some 1)
  (g off b f:Nat)(hd:a.eval d= .slice (some ⟨g,off,none⟩) b f)(str:ByteArray)(hs:a.eval s= .string str)
  (c:Array Value)(t:TypeId)(r:w.heap[g]? =some (.cells c t (0,0)))(j:off+min str.size b<=c.size)
  (h:∀w',Hid (w'.heap[g]? =some (.cells (c.toList.take off++Lib.byteCells (str.data.toList.take (min str.size b))++c.toList.drop (off+min str.size b)).toArray t (0,0)))->Hid (lh g w w')->K (a.put o.dst (goInt (min str.size b:Nat))) w') :
  if Region.wanted o (yielded i a.tmps)=true then Oper.wp P o a w K Q else E:=by
 have hw:Region.wanted o (yielded i a.tmps)=true:=by simp[Region.wanted,m]
 rw[L7 hw];have l:=pC (P:=P) w n q o.type e g off b f str c t u p r j;unfold Oper.wp;simp only[execOp,ho,resolve,invoke,builtin,MU,MT,My,MF,M6,Mp,hs,hd,l];exact h _ (setRow_heap w g c _ t _ r) ⟨Z,Z,Z,by simp,fun k _ x=>setRow_other w g k _ x⟩
theorem fF (rg:List UInt8)(o:Nat)(cs:List UInt8):Lib.byteCells (fg rg o cs)=(Lib.byteCells rg).take o++Lib.byteCells cs++(Lib.byteCells rg).drop (o+cs.length):=by
 unfold fg Lib.byteCells;rw[LN,LN,List.map_take,List.map_drop,LK]
theorem mM {R B i:Nat}{v:Value}{w w':World}(h:lh R w w')(c:w.cell? ⟨B,i,none⟩=some v)(b:B≠R):w'.cell? ⟨B,i,none⟩=some v :=
 (Lg (a:=⟨B,i,none⟩) (h.block B (Lj c) b)).trans c
theorem lh.EN {B:Nat}{w w':World}(h:lh B w.drew w'):lh B w w':=⟨h.os,h.tape,h.output,h.size,h.block⟩
theorem x8 (s:ByteArray)(m:Nat):(s.extract m s.size).data.toList=s.data.toList.drop m:=by
 rw[NL,Array.toList_extract,List.extract_eq_take_drop];exact Mc (by rw[Lq,NT];exact L4 _)
def bR (R:Nat)(rg:List UInt8)(w:World):Prop:=w.heap[R]? =some (.cells (Lib.byteCells rg).toArray 5 (0,0))
set_option maxHeartbeats 1000000 in
theorem x9 (B R:Nat) (rg:List UInt8) (k:Nat) (s:ByteArray) (w:World) (r:w.cell? B=some (.slice (some ⟨R,0,none⟩) rg.length rg.length)) (t:bR R rg w) (l:B≠R) (h1:1<=rg.length) (y:rg.length<=8192)
  (hs:s.size<=rg.length) (K:k<=4611686018427387904) :
  Calls Tryz.prog 183 #[B,.int .i64 k,.string s] w fun e w'=>e= .returned (.tuple #[])/\bR R (dK rg k s.data.toList) w'/\lh R w w':=by
 obtain⟨n,a⟩:∃n,n=rg.length:=⟨_,Z⟩;rw[<-a]at r h1 y hs;have z:k%n<n:=Nc _ O;have bd:(k:Int).tmod (n:Int)=((k%n:Nat):Int):=by rw[MI O];rfl
 have cn:=H a;clear a;generalize b:k%n=o at *;have A:=H b;clear b;have C:n≠o:=O
 have u:=H t;clear t;have c:(Lib.byteCells rg).toArray.size=n:=by rw[LG,Lib.byteCells_length];exact cn.symm
 have x:=H c;clear c;have hz:n≠0:=O
 have E:o<=n:=O
 go_enter Tryz.func183,Tryz.ntmps183
 go_wp2_with fail
 go_region_law (refine jA Z _ _ _ _ Z 5 Tryz.underlying72 IG R o (n-o) (n-o) (by simp[Act.eval,Act.put]) s (by simp[Act.eval,Act.put]) _ _ u.o (by rw[x.o];omega) ?_;intro F d f;have L:=mM f.out (show w.drew.cell? _=_ from r) l)
 all_goals
  obtain⟨m,j⟩:∃m,m=min s.size (n-o):=⟨_,Z⟩
  have g:bR R (fg rg o (s.data.toList.take m)) F:=by
   have h:=d.out;unfold bR;rw[fF,Le,<-Lib.size_eq,show min m s.size=m by omega];rw[<-j]at h;exact h
  rw[<-j];clear d u x;have G:=H j;have I:=H g;have hV:m<=s.size:=O
  have i:(Lib.byteCells (fg rg o (s.data.toList.take m))).toArray.size=n:=by rw[LG,Lib.byteCells_length,dS _ _ _ (by rw[Le,<-cn.o];omega)];exact cn.symm
  have J:=H i;clear i;clear j g;go_wp2_with fail
  go_region_law (refine jA Z _ _ _ _ Z 5 Tryz.underlying72 IG R 0 n n (by simp[Act.eval]) (s.extract m s.size) (by simp[Act.eval]) _ _ I.o (by rw[J.o];omega) ?_;intro M p q)
  refine bodyPost_end (LV Z _ _ _) Z ⟨Z,?_,f.out.EN.trans q.out.EN⟩;have h:=p.out;rw[x8,show min (s.extract m s.size).size n=(s.data.toList.drop m).length by rw[NK,Lq,<-Lib.size_eq];omega,LS]at h;unfold bR dK;rw[<-cn.o,A.o,fF,<-Lib.size_eq,<-G.o];exact h
end
section
set_option maxRecDepth 100000
open Go.RowKit Go.Shelf
attribute [local go_sem] Oper.semAt_some
theorem uy {s:Sp}{L:List Sp}{k:Nat}(h:k<L.length):jF s (L.drop k)=if L[k].2<s.1 then L[k]::jF s (L.drop (k+1))else if s.2<L[k].1 then s::L[k]::L.drop (k+1)else jF (min s.1 L[k].1,max s.2 L[k].2) (L.drop (k+1)):=by
 rw[MM h];rfl
theorem qU {e:Int}{L:List Sp}(h:aJ e L=true):bD L=L:=by
 unfold bD;rw[List.filter_eq_self];intro x a;obtain⟨k,b,rfl⟩:=Nj.1 a
 simpa using (fD h b).2.1
theorem pD {e:Int}{L:List Sp}(h:aJ e L=true)(k:Nat):∃a,aJ a (L.drop k)=true:=by
 induction L generalizing e k with
 | nil=>exact⟨0,by simp;rfl⟩
 | cons x L b =>
  cases k with
  | zero=>exact⟨e,h⟩
  | succ k=>rw[aB]at h;exact b h.2 k
def jM (N M Q:Nat)(w:World)(y:Sp)(a:List Sp)(v:Value)(r:Nat)(W:World):Prop :=
 At N 0 y.1 W/\At N 1 y.2 W/\At Q 0 v W/\At (Q+1) 0 (r:Int) W/\aH W M v a/\Below N w W/\(∀b,v.ownBlock=some b->b<Q\/Q+2<=b)/\y.1<y.2
def CT (N M Q:Nat)(w:World)(s:Sp)(L:List Sp)(k:Nat)(W:World):Prop :=
 ∃y a v,jM N M Q w y a v L.length W/\a.length<=k/\jF s L=a++jF y (L.drop k)
def CU (N M Q:Nat)(w:World)(s:Sp)(L:List Sp)(c:Code)(k:Nat)(W:World):Prop :=
 ∃y a v,jM N M Q w y a v k W/\a.length<=k/\jF s L=a++y::L.drop k/\c= .exit 0
theorem mN {N M Q:Nat}{w:World}{y:Sp}{b:List Sp}{v:Value}{r:Nat}{B:Nat}(f:N<=w.heap.size)(g:N<=B){A d:World}{row:Option Nat}(h:jM N M Q w y b v r A)(c:A.grownBy d row)
  (hr:∀r,row=some r->B<=r/\∃o:Obj,A.heap[r]? =some o/\o.isCells=false):jM N M Q w y b v r d:=by
 have a:=fun r e=>(hr r e).2;obtain⟨h1,h2,i,j,k,l,m⟩:=h;exact⟨h1.own c a,h2.own c a,i.own c a,j.own c a,k.own c a,ek l c hr f g,m⟩
theorem xc {N M Q:Nat}{s:Sp}{w:World}{L:List Sp}{B:Nat}(a:N<=w.heap.size)(b:N<=B):OwnFrom B (CT N M Q w s L):=fun _ _ _ _ ⟨y,outs,v,h,r⟩ hg hr=>⟨y,outs,v,mN a b h hg hr,r⟩
theorem xd {N M Q:Nat}{s:Sp}{w:World}{L:List Sp}{B:Nat}(a:N<=w.heap.size)(b:N<=B)(c:Code):OwnFrom B (CU N M Q w s L c):=fun _ _ _ _ ⟨y,outs,v,h,r⟩ hg hr=>⟨y,outs,v,mN a b h hg hr,r⟩
theorem gq {N M Q:Nat}{w:World}{y:Sp}{a:List Sp}{v:Value}{r:Nat}{W:World}(h:jM N M Q w y a v r W)(b:N<=W.heap.size)(o:Obj):jM N M Q w y a v r (W.alloc o):=by
 obtain⟨h1,h2,c,d,e,f,g⟩:=h;exact⟨h1.alloc o,h2.alloc o,c.alloc o,d.alloc o,e.alloc o,f.alloc b o,g⟩
theorem xe {N M Q:Nat}(ag:N<M)(ak:M<Q){w:World}{y:Sp}{d a:List Sp}{v v':Value}{r:Nat}{W W':World}(h:jM N M Q w y d v r W)(f:W.grownBy W' v.ownBlock)(ho:aH W' M v' a)
  (g:v'.ownBlock=v.ownBlock\/∃k,v'.ownBlock=some k/\W.heap.size<=k)(u:N<=w.heap.size) :
  jM N M Q w y a v' r (W'.setCell Q v'):=by
 obtain⟨h1,h2,o,i,j,l,m,q⟩:=h;have c:∀k,k<M\/k=Q\/k=Q+1->v.ownBlock≠some k:=fun k s e=>by have:=(j.lt k e).1;have:=m k e;omega
 have n:∀b,v'.ownBlock=some b->b<Q\/Q+2<=b:=by
  intro b e
  rcases g with g | ⟨k,g,s⟩
  ·rw[g]at e;exact m b e
  rw[g]at e;cases e;have:=i.lt;omega
 have t:v'.ownBlock≠some Q:=fun e=>by have:=n Q e;omega
 refine⟨(h1.grown f (c _ O)).ob _ O,(h2.grown f (c _ O)).ob _ O,(o.grown f (c _ O)).set _,(i.grown f (c _ O)).ob _ O,ho.setCell _ _ _ t,?_,n,q⟩;refine(l.trans (aR f ?_ (fun k e=> ?_))).setCell (p:=⟨Q,0,none⟩) (by show N<=Q;omega) _
 ·have:=l.size;omega
 have:=(j.lt k e).1;omega
theorem uz {N M Q:Nat}(ag:N<M)(ak:M<Q){w:World}{y:Sp}{a:List Sp}{v:Value}{r:Nat}{W:World}(h:jM N M Q w y a v r W)(u:Nat):jM N M Q w y a v u (W.setCell ⟨Q+1,0,none⟩ (u:Int)):=by
 obtain⟨h1,h2,d,f,g,i,c,j⟩:=h;have b:v.ownBlock≠some (Q+1):=fun e=>by have:=c _ e;omega
 exact⟨h1.ob _ O,h2.ob _ O,d.ob _ O,f.set _,g.setCell _ _ _ b,i.setCell (p:=⟨Q+1,0,none⟩) (by show N<=Q+1;omega) _,c,j⟩
theorem pF {N M Q:Nat}(ag:N<M)(ak:M<Q){w:World}{y:Sp}{a:List Sp}{v:Value}{r:Nat}{W:World}(h:jM N M Q w y a v r W)(z:Sp)(hz:z.1<z.2):jM N M Q w z a v r ((W.setCell N z.1).setCell ⟨N,1,none⟩ z.2):=by
 obtain⟨h1,h2,d,f,c,g,i,j⟩:=h;have b:v.ownBlock≠some N:=fun e=>by have:=(c.lt _ e).1;omega
 exact⟨(h1.set _).other _ _ FE,(h2.other _ _ FE).set _,(d.ob _ O).ob _ O,(f.ob _ O).ob _ O,(c.setCell _ _ _ b).setCell _ _ _ b,(g.setCell (p:=⟨N,0,none⟩) (L4 _) _).setCell (p:=⟨N,1,none⟩) (L4 _) _,i,hz⟩
theorem nr {N M Q:Nat}{w:World}{y:Sp}{a:List Sp}{v:Value}{r:Nat}{W:World}(h:jM N M Q w y a v r W):jM N M Q w y a v r W.drew:=by
 obtain⟨h1,h2,b,c,d,e,f⟩:=h;exact⟨h1,h2,b,c,d,e.drew,f⟩
theorem oB.drop {w:World}{n₀:Nat}{a:Option Addr}{L:List Sp}(h:oB w n₀ a L){cap:Nat}(c:L.length<=cap)(k:Nat):oB w n₀ (if cap=k then a else Option.map (fun x=>x.add (k*2)) a) (L.drop k):=by
 refine⟨by rw[Lq];have:=h.small;omega,fun d=> ?_⟩;rw[Lq]at d;obtain⟨b,off,rfl,e,f⟩:=h.cells O;rw[L5 O,Option.map_some,Ms];refine⟨b,off+k*2,Z,e,fun i hi=> ?_⟩;rw[Lq]at hi;obtain⟨g,j⟩:=f (k+i) O;rw[List.getElem_drop,show off+k*2+i*2=off+(k+i)*2 by omega];exact⟨g,j⟩
theorem jg (w:World)(base n₀:Nat)(v:Value)(L:List Sp)(a:Option Addr)(cap:Nat)(c:List Sp)(h:aH w base v L)(i:L.length<=2199023255552)(b:base<=w.heap.size)
  (j:oB w n₀ a c)(l:n₀<=w.heap.size)(d:0<c.length->∀g,a=some g->v.ownBlock≠some g.block)(n:Nat)(f:n=c.length) :
  Calls Tryz.prog 196 #[v,.slice a n cap] w fun e w'=>∃v',e= .returned v'/\aH w' base v' (L++bD c)/\w.grownBy w' v.ownBlock/\(v'.ownBlock=v.ownBlock\/∃k,v'.ownBlock=some k/\w.heap.size<=k):=by
 subst f;exact jf w base n₀ v L a cap c h i b j l d
theorem xf {W:World}(a b:Int){n₀:Nat}(h:W.heap.size+1<=n₀):oB (W.alloc (.cells #[a,b] 149)) n₀ (some ⟨W.heap.size,0,none⟩) [(a,b)] :=
 ⟨FE,fun _=>⟨W.heap.size,0,Z,O,fun i hi=>by
  obtain rfl:i=0:=Jj
  simp⟩⟩
theorem qV {n₀:Nat}{w a b:World}(c:n₀<=w.heap.size)(h:Below w.heap.size w a)(k:Below w.heap.size w b)(hs:a.heap.size<=b.heap.size):Below n₀ a b :=
 ⟨k.os.trans h.os.symm,k.tape.trans h.tape.symm,k.output.trans h.output.symm,hs,fun i hi=>(k.block i O).trans (h.block i O).symm⟩
set_option maxHeartbeats 1000000 in
theorem AQ (w:World) (n₀:Nat) (a:Option Addr) (cap:Nat) (L:List Sp) (s:Sp) (hc:oB w n₀ a L) (hn:n₀<=w.heap.size) (V:L.length<=cap) :
  Calls Tryz.prog 184 #[.slice a L.length cap,.agg #[s.1,s.2]] w fun e w'=>∃v,e= .returned v/\aH w' w.heap.size v (fN L s)/\Below w.heap.size w w':=by
 obtain⟨s1,s2⟩:=s;have X:=(((L3 w.heap.size w).alloc (L4 _) (.cells #[s1,s2] 149)).alloc FE (.cells #[.slice a L.length cap] 187)).alloc IH (.cells #[.slice a L.length cap] 187);have HB:=H X;have HS:=H (hc.below (X.mono hn));have c5:=hc.small;clear X hc;refine(MB (n:=4)).1 ?_;refine callsIn_of_wp_marks Tryz.func184 Z trivial ?_ Z;simp only[Tryz.ntmps184,LG,Lx,M1,Nat.reduceAdd,Nat.reduceSub,M8,M7,Mk,Mf,LD,LQ];refine M9.2 ?_;go_wp2_with fail
 go_step3
 go_wp2_with fail;refine(oo _ _ _ _ _ Z).mono ?_;rintro e w1⟨rfl,rfl⟩;go_wp2_with fail;refine(nk _ n₀ a cap L (s1,s2) HS.o (by have:=HB.size;omega)).mono ?_;rintro e z⟨rfl,S⟩;have eu:At w.heap.size 0 s1 z:=((((At.new (W:=w) (vs:= #[s1,s2]) 149 Z Z).alloc _).alloc _).below S IH);have ev:At w.heap.size 1 s2 z:=((((At.new (W:=w) (vs:= #[s1,s2]) 149 Z Z).alloc _).alloc _).below S IH);have hz:At (w.heap.size+1+1) 0 (.slice a L.length cap) z:=((At.new (W:=(w.alloc (.cells #[s1,s2] 149)).alloc (.cells #[.slice a L.length cap] 187)) (vs:= #[.slice a L.length cap]) 187 FE Z).below S FE);have ew:=H (HS.below (S.mono (by have:=HB.size;omega)));have b5:=H (HB.trans (S.mono HB.size));have b1:=S.size
 simp at b1
 clear S HB HS
 cases htk:cW L (s1,s2)with
 | false =>
  go_wp2_with fail;rw[Nl];refine gH Z ⟨_,Z,?_,b5.o⟩;unfold fN;rw[htk];exact aH.nil _ _
 | true =>
  obtain⟨i0,hi,b2,b3,b4⟩:=MG iT;have hW:¬9223372036854775807<L.length+1:=O
  go_wp2_with (first | (at_make;refine wpList_make_own _ Z _ _ _ Z z.heap.size 149 i0 _ 2 Tryz.underlying51 hi b2 b3 _ _ _ (L.length+1) Z Z O (by rw[b4];omega) IX (L4 _) ?_))
  intro C T E;have eB:=ME T z.heap.size Z;have a9:aH C z.heap.size (.slice (some ⟨z.heap.size,0,none⟩) 0 (L.length+1)) []:=T;have c6:=E.size;have be:=eu.grown E FE;have bk:=ev.grown E FE;have a4:=hz.grown E FE;have bn:=H (ew.grown E O FE);have an:=H (b5.trans (aR E O (fun k e=>by cases e)));have fv:=H a9;clear T a9 E ew b5 eu ev hz;have q1:=((a4.alloc (.cells #[.slice (some ⟨z.heap.size,0,none⟩) 0 (L.length+1)] 51)).alloc (.cells #[(L.length:Int)] 3)).1;have cq:=H be;have cw:=H bk;clear be bk a4;go_wp2_with fail
  go_step3
  go_wp2_with fail;have ag:w.heap.size<z.heap.size:=O
  have ak:z.heap.size<C.heap.size:=O
  refine(M9 (n:=4)).1 ?_
  refine om (n₀:=n₀) O Z Z (bn.below (((L3 n₀ C).alloc O _).alloc IH _)) IH
   (CT w.heap.size z.heap.size C.heap.size w (s1,s2) L) (CU w.heap.size z.heap.size C.heap.size w (s1,s2) L) (xc (L4 _) IH) (xd (L4 _) IH) ?start ?round ?done ?stop
  case start =>
   refine⟨(s1,s2),[],_,⟨(cq.alloc _).alloc _,(cw.alloc _).alloc _,(At.new _ Z Z).alloc _,At.new _ FE Z,(fv.alloc _).alloc _,(an.alloc O _).alloc IH _,fun b e=>by cases e;exact .inl eB.2,(bm.1 htk).2.2.1⟩,LW _,Z⟩
  case round =>
   rintro l k hk W hl⟨⟨u,t⟩,f,v,y,hlen,x⟩;have hX:C.heap.size+1<W.heap.size:=y.2.2.2.1.lt;have HV:=H (y.2.2.2.2.1.lt);have b6:=H y.2.2.2.2.2.2.1;have hy:u<t:=y.2.2.2.2.2.2.2;have HI:=H y;have HG:=H x;have HD:=H (uy (s:=(u,t)) hk);obtain⟨va,vc,rfl,-⟩:=y.2.2.2.2.1.at O;clear y x q1 cq cw
   gi_wp2
   refine⟨(KeepsOthers.alloc _ _).from _,(L3 n₀ W).alloc O _,fun _ W2=>jM w.heap.size z.heap.size C.heap.size w (u,t) f (.slice va f.length vc) L.length W2/\At W.heap.size 0 L[k].1 W2/\At W.heap.size 1 L[k].2 W2,?_,⟨gq HI.o O _,At.new _ Z Z,At.new _ Z Z⟩,?_⟩
   ·intro _ A A' row h hg hr;exact⟨mN (B:=_) (L4 _) (by first | omega | (simp;omega)) h.1 hg hr,h.2.1.own hg (fun r e=>(hr r e).2),h.2.2.own hg (fun r e=>(hr r e).2)⟩
   rintro W2⟨y,⟨x0,f0⟩,⟨x1,f1⟩⟩;obtain⟨⟨d0,e0⟩,⟨d1,e1⟩,⟨d2,e2⟩,⟨d3,e3⟩,-⟩:=id y;have G:=H y;have d4:=fD (bm.1 htk).1 hk;clear HI y;by_cases c1:L[k].2<u
   ·have b7:f.length<=4398046511104:=by omega
    gi_wp2_with (first | (gi_at_builtin;refine eO _ Z _ _ Z z.heap.size _ _ Z (G.2.2.2.2.1.alloc _) b7 W2.heap.size L[k] Z FE FE (by have:=G.2.2.1.lt;simp;omega) ?_))
    intro v' W3 ho hg a5;obtain⟨hY,h9,a6,-⟩:=ho.at Jb;have d5:=gq G.o (by have:=G.1.lt;omega) (.cells #[L[k].1,L[k].2] 149);have ex:=xe ag ak d5 hg ho (by simpa using a5) (L4 _);have g:(Value.slice va f.length vc).ownBlock≠some C.heap.size:=fun e=>by have:=b6.o _ e;omega
    obtain⟨J,g0⟩:=d5.2.2.1.grown hg g;have a7:=((KeepsOthers.alloc W2 (.cells #[L[k].1,L[k].2] 149)).trans (cz d5.2.2.2.2.1 hg));have b0:Below n₀ W2 W3:=((L3 n₀ W2).alloc (by have:=G.1.lt;omega) _).trans (aR hg (by have:=G.1.lt;simp;omega) (fun b e=>by have:=HV.o _ e;omega));have fw:=H a7;have an:=H b0;have fx:=H ex;have a1:(f++[L[k]]).length<=k+1:=Jb
    have gF:=H a1;clear ex a7 b0 hg g G HV d0 d1 d2 d3 e0 e1 e2 e3 x0 x1 f0 f1 ho d5 a5 a1;generalize (f++[L[k]]).length=nl at a6;subst a6
    gi_wp2_with fail
    refine⟨(fw.trans (KeepsOthers.setCell _ _ _)).from _,an.setCell (p:=⟨C.heap.size,0,none⟩) (by show n₀<=C.heap.size;omega) _,_,_,_,fx.o,gF.out,?_⟩;rw[HG.o,HD.o,L7 c1,LK];rfl
   have U:=H (MP.1 c1);by_cases c2:t<L[k].1
   ·gi_wp2_with fail
    exact⟨(KeepsOthers.setCell _ _ _).from _,_,f,_,uz ag ak G.o k,hlen,by rw[HG.o,HD.o,L5 (MP.2 U.o),L7 c2,MM hk],Z⟩
   have d6:=H (MP.1 c2);by_cases c3:L[k].1<u
   ·by_cases c4:t<L[k].2
    ·have HP:=H (show(min u L[k].1,max t L[k].2)=(L[k].1,L[k].2)from Prod.ext II II)
     gi_wp2_with fail
     exact⟨((KeepsOthers.setCell _ _ _).trans (KeepsOthers.setCell _ _ _)).from _,((L3 n₀ W2).setCell (p:=⟨w.heap.size,0,none⟩) Jc _).setCell (p:=⟨w.heap.size,1,none⟩) Jc _,(L[k].1,L[k].2),f,_,pF ag ak G.o (L[k].1,L[k].2) II,O,JM⟩
    have HP:=H (show(min u L[k].1,max t L[k].2)=(L[k].1,t)from Prod.ext II II)
    gi_wp2_with fail
    exact⟨((KeepsOthers.setCell _ _ _).trans (KeepsOthers.setCell _ _ _)).from _,((L3 n₀ W2).setCell (p:=⟨w.heap.size,0,none⟩) Jc _).setCell (p:=⟨w.heap.size,1,none⟩) Jc _,(L[k].1,t),f,_,pF ag ak G.o (L[k].1,t) II,O,JM⟩
   by_cases c4:t<L[k].2
   ·have HP:=H (show(min u L[k].1,max t L[k].2)=(u,L[k].2)from Prod.ext II II)
    gi_wp2_with fail
    exact⟨((KeepsOthers.setCell _ _ _).trans (KeepsOthers.setCell _ _ _)).from _,((L3 n₀ W2).setCell (p:=⟨w.heap.size,0,none⟩) Jc _).setCell (p:=⟨w.heap.size,1,none⟩) Jc _,(u,L[k].2),f,_,pF ag ak G.o (u,L[k].2) II,O,JM⟩
   have HP:=H (show(min u L[k].1,max t L[k].2)=(u,t)from Prod.ext II II)
   gi_wp2_with fail
   exact⟨((KeepsOthers.setCell _ _ _).trans (KeepsOthers.setCell _ _ _)).from _,((L3 n₀ W2).setCell (p:=⟨w.heap.size,0,none⟩) Jc _).setCell (p:=⟨w.heap.size,1,none⟩) Jc _,(u,t),f,_,pF ag ak G.o (u,t) II,O,JM⟩
  case done =>
   rintro d W hD⟨⟨u,t⟩,f,v,y,hlen,x⟩ a2;rw[Nh]at x;have eC:w.heap.size<=d:=JL
   obtain⟨va,vc,rfl,-⟩:=y.2.2.2.2.1.at O;obtain⟨⟨d0,-⟩,⟨d1,-⟩,⟨d2,-⟩,⟨d3,-⟩,-⟩:=id y;have hy:u<t:=y.2.2.2.2.2.2.2;have G:=H y;have HG:=H x;have eL:=H a2;have b8:C.heap.size+1<W.heap.size:=y.2.2.2.1.lt;have hr:L.length<=L.length:=O
   have b9:L.length<=cap:=O
   clear y x a2 hD q1 cq cw;go_wp2_with fail;refine wp_mono (Q:=gf _) ?_ (jK _);refine az (fun w':World=>w'.cell? C.heap.size=some (.slice va f.length vc)/\w'.cell? w.heap.size=some (u:Y)/\w'.cell? ⟨w.heap.size,1,none⟩=some (t:Y)/\w'.cell? ⟨C.heap.size+1,0,none⟩=some ((L.length:Int):Y)) (⟨d2,d0,d1,d3⟩) fun hZ=>?_;refine aA 0 1 4 5 ?_;refine aQ 6 ?_;have bo:=H (nr G.o);have F:=H (gq bo.o (by show w.heap.size<=W.heap.size;omega) (.cells #[u,t] 149));refine aZ 2 fun Kq i=> ?_;go_simp;refine i.out _ _ (⟨F.2.2.1.1,F.1.1,F.2.1.1,F.2.2.2.1.1⟩) ?_;clear i Kq hZ;refine fun hZ=>aW ?_;refine aZ 3 fun Kq i=> ?_;go_simp;refine(jg (W.drew.alloc (.cells #[u,t] 149)) z.heap.size (W.heap.size+1) (.slice va f.length vc) f _ _ [(u,t)] F.2.2.2.2.1 O IH (xf (W:=W.drew) _ _ (L4 _)) FE KA 1 Z).mono ?_;rintro e W5⟨v1,rfl,I,m,K⟩;rw[gI,one,L7 hy]at I;have g:∀b,b<z.heap.size\/b=C.heap.size\/b=C.heap.size+1->(Value.slice va f.length vc).ownBlock≠some b:=fun b X e=>by have:=(G.2.2.2.2.1.lt _ e).1;have:=G.2.2.2.2.2.2.1 _ e;omega
   have J:=F.1.grown m (g _ O);have M:=F.2.1.grown m (g _ O);have N:=F.2.2.1.grown m (g _ O);have P:=F.2.2.2.1.grown m (g _ O);have bu:=((KeepsOthers.drew W).trans ((KeepsOthers.alloc _ _).trans (cz F.2.2.2.2.1 m))).same d _ eL.o Z;have bv:Below w.heap.size w W5:=F.2.2.2.2.2.1.trans (aR m IH (fun b e=>by have:=(G.2.2.2.2.1.lt _ e).1;omega));have c0:W.heap.size<=W5.heap.size:=by have:=m.size;simp at this;omega
   have eS:=H bu;have bx:=H bv;have aa:=H I;have ab:∀b,b<z.heap.size\/b=C.heap.size\/b=C.heap.size+1->v1.ownBlock≠some b:=fun b X e=>by { have h1:=(I.lt _ e).1;rcases K with h | ⟨j,h,hj⟩;(rw[h]at e;exact g b X e);(rw[h]at e;cases e;simp at hj;omega) }
   have HZ:=H (show _/\_/\_/\_ from⟨J,M,N,P⟩);have U:=H ab;clear bu bv I m g K ab;go_simp;refine i.out _ _ (⟨N.1,J.1,M.1,P.1⟩) ?_;clear i Kq hZ;refine fun hZ=>aW ?_;clear J M N P;refine aZ 7 fun Kq i=> ?_;go_simp;refine(jg W5 z.heap.size n₀ v1 (f++[(u,t)]) _ _ (L.drop L.length) aa.o Jb O (((bn.drop V L.length).below (qV hn an.o bx.o O))) O (by intro hp ad e;obtain⟨b,off,e2,X,-⟩:=(bn.drop V L.length).cells hp;rw[e2]at e;cases e;exact fun e=>by have:=(aa.lt _ e).1;simp at this;omega) _ FE).mono ?_;rintro e W6⟨v2,rfl,a3,q,-⟩;have g:∀b,b<z.heap.size->v1.ownBlock≠some b:=fun b X e=>by have:=(aa.lt _ e).1;omega
   have bz:=(cz aa.o q).same d _ eS.o Z;have av:Below w.heap.size w W6:=bx.trans (aR q O (fun b e=>by have:=(aa.lt _ e).1;omega));obtain⟨J,M,N,P⟩:=HZ.o;replace J:=J.grown q (U.o _ O);replace M:=M.grown q (U.o _ O);replace N:=N.grown q (U.o _ O);replace P:=P.grown q (U.o _ O);have cC:=H bz;have e4:=H av;have e5:=H a3;clear bz av a3 g q;go_simp;refine i.out _ _ (⟨N.1,J.1,M.1,P.1⟩) ?_;clear i Kq hZ;refine fun hZ=>aW ?_;clear J M N P;refine aQ 8 ?_;refine ay ?_ _;simp only[gf];go_wp2_with fail
   all_goals
    refine dy Z cC.o ⟨_,Z,?_,dO e4.o (L4 _) eC⟩;unfold fN;rw[L7 htk,HG.o];have:=e5.o;rw[Nh,show bD ([]:List Sp)=[]from Z,LM]at this;exact(this.own (grownBy_putObj' W6 d _) (fun r e=>by cases e;exact⟨_,cC.o,Z⟩)).mono O
  case stop =>
   rintro d c k W hD hk⟨⟨u,t⟩,f,v,y,hlen,x,rfl⟩ a2;have eC:w.heap.size<=d:=JL
   obtain⟨va,vc,rfl,-⟩:=y.2.2.2.2.1.at O;obtain⟨⟨d0,-⟩,⟨d1,-⟩,⟨d2,-⟩,⟨d3,-⟩,-⟩:=id y;have hy:u<t:=y.2.2.2.2.2.2.2;have G:=H y;have HG:=H x;have eL:=H a2;have b8:C.heap.size+1<W.heap.size:=y.2.2.2.1.lt;have hr:k<=L.length:=O
   have b9:k<=cap:=O
   clear y x a2 hD q1 cq cw;refine M9.2 ?_;go_wp2_with fail;refine wp_mono (Q:=gf _) ?_ (jK _);refine az (fun w':World=>w'.cell? C.heap.size=some (.slice va f.length vc)/\w'.cell? w.heap.size=some (u:Y)/\w'.cell? ⟨w.heap.size,1,none⟩=some (t:Y)/\w'.cell? ⟨C.heap.size+1,0,none⟩=some ((k:Int):Y)) (⟨d2,d0,d1,d3⟩) fun hZ=>?_;refine aA 0 1 4 5 ?_;refine aQ 6 ?_;have bo:=H (nr G.o);have F:=H (gq bo.o (by show w.heap.size<=W.heap.size;omega) (.cells #[u,t] 149));refine aZ 2 fun Kq i=> ?_;go_simp;refine i.out _ _ (⟨F.2.2.1.1,F.1.1,F.2.1.1,F.2.2.2.1.1⟩) ?_;clear i Kq hZ;refine fun hZ=>aW ?_;refine aZ 3 fun Kq i=> ?_;go_simp;refine(jg (W.drew.alloc (.cells #[u,t] 149)) z.heap.size (W.heap.size+1) (.slice va f.length vc) f _ _ [(u,t)] F.2.2.2.2.1 O IH (xf (W:=W.drew) _ _ (L4 _)) FE KA 1 Z).mono ?_;rintro e W5⟨v1,rfl,I,m,K⟩;rw[gI,one,L7 hy]at I;have g:∀b,b<z.heap.size\/b=C.heap.size\/b=C.heap.size+1->(Value.slice va f.length vc).ownBlock≠some b:=fun b X e=>by have:=(G.2.2.2.2.1.lt _ e).1;have:=G.2.2.2.2.2.2.1 _ e;omega
   have J:=F.1.grown m (g _ O);have M:=F.2.1.grown m (g _ O);have N:=F.2.2.1.grown m (g _ O);have P:=F.2.2.2.1.grown m (g _ O);have bu:=((KeepsOthers.drew W).trans ((KeepsOthers.alloc _ _).trans (cz F.2.2.2.2.1 m))).same d _ eL.o Z;have bv:Below w.heap.size w W5:=F.2.2.2.2.2.1.trans (aR m IH (fun b e=>by have:=(G.2.2.2.2.1.lt _ e).1;omega));have c0:W.heap.size<=W5.heap.size:=by have:=m.size;simp at this;omega
   have eS:=H bu;have bx:=H bv;have aa:=H I;have ab:∀b,b<z.heap.size\/b=C.heap.size\/b=C.heap.size+1->v1.ownBlock≠some b:=fun b X e=>by { have h1:=(I.lt _ e).1;rcases K with h | ⟨j,h,hj⟩;(rw[h]at e;exact g b X e);(rw[h]at e;cases e;simp at hj;omega) }
   have HZ:=H (show _/\_/\_/\_ from⟨J,M,N,P⟩);have U:=H ab;clear bu bv I m g K ab;go_simp;refine i.out _ _ (⟨N.1,J.1,M.1,P.1⟩) ?_;clear i Kq hZ;refine fun hZ=>aW ?_;clear J M N P;refine aZ 7 fun Kq i=> ?_;go_simp;refine(jg W5 z.heap.size n₀ v1 (f++[(u,t)]) _ _ (L.drop k) aa.o Jb O (((bn.drop V k).below (qV hn an.o bx.o O))) O (by intro hp ad e;obtain⟨b,off,e2,X,-⟩:=(bn.drop V k).cells hp;rw[e2]at e;cases e;exact fun e=>by have:=(aa.lt _ e).1;simp at this;omega) _ FE).mono ?_;rintro e W6⟨v2,rfl,a3,q,-⟩;have g:∀b,b<z.heap.size->v1.ownBlock≠some b:=fun b X e=>by have:=(aa.lt _ e).1;omega
   have bz:=(cz aa.o q).same d _ eS.o Z;have av:Below w.heap.size w W6:=bx.trans (aR q O (fun b e=>by have:=(aa.lt _ e).1;omega));obtain⟨J,M,N,P⟩:=HZ.o;replace J:=J.grown q (U.o _ O);replace M:=M.grown q (U.o _ O);replace N:=N.grown q (U.o _ O);replace P:=P.grown q (U.o _ O);have cC:=H bz;have e4:=H av;have e5:=H a3;clear bz av a3 g q;go_simp;refine i.out _ _ (⟨N.1,J.1,M.1,P.1⟩) ?_;clear i Kq hZ;refine fun hZ=>aW ?_;clear J M N P;refine aQ 8 ?_;refine ay ?_ _;simp only[gf];go_wp2_with fail
   all_goals
    refine dy Z cC.o ⟨_,Z,?_,dO e4.o (L4 _) eC⟩;unfold fN;rw[L7 htk,HG.o];have gN:=(pD (bm.1 htk).1 k).choose_spec;have:=e5.o;rw[qU gN,LK]at this;exact(this.own (grownBy_putObj' W6 d _) (fun r e=>by cases e;exact⟨_,cC.o,Z⟩)).mono O
end
section
open Go.RowKit Go.Shelf
def ie (R:Nat)(b:Bx)(a:Option Addr)(cap:Nat):Array Value:= #[.slice (some ⟨R,0,none⟩) b.ring.length b.ring.length,b.rd,b.nx,.slice a b.bl.length cap,b.nw]
def tz (B R lb:Nat)(bl:List Sp)(a:Option Addr):Prop:=(∀b,a=some b->b=⟨b.block,b.off,none⟩)/\(0<bl.length->∀b,a=some b->b.block≠B/\b.block≠R/\lb<=b.block)
structure GU (w:World)(a:Option Addr)(L:List Sp):Prop extends oB w w.heap.size a L where
 ty:0<L.length->∀ad,a=some ad->dX w ad.block 149
def ar (B R lb:Nat)(b:Bx)(w:World):Prop :=
 B≠R/\bR R b.ring w/\∃a c,w.heap[B]? =some (.cells (ie R b a c) 120 (0,0))/\GU w a b.bl/\b.bl.length<=c/\tz B R lb b.bl a
structure wD (B R:Nat)(w w':World):Prop where
 os:w'.os=w.os
 tape:w'.tape=w.tape
 output:w'.output=w.output
 size:w.heap.size<=w'.heap.size
 block:∀k,k<w.heap.size->k≠B->k≠R->w'.heap[k]? =w.heap[k]?
theorem wD.refl (B R:Nat)(w:World):wD B R w w:=⟨Z,Z,Z,L4 _,fun _ _ _ _=>rfl⟩
theorem wD.trans {B R:Nat}{a b c:World}(h:wD B R a b)(k:wD B R b c):wD B R a c :=
 ⟨k.os.trans h.os,k.tape.trans h.tape,k.output.trans h.output,L8 h.size k.size,fun i hi d e=>(k.block i (Lb hi h.size) d e).trans (h.block i hi d e)⟩
theorem wD.GV {B R:Nat}{a b:World}(h:lh B a b):wD B R a b:=⟨h.os,h.tape,h.output,h.size,fun i hi c _=>h.block i hi c⟩
theorem wD.Iq {B R:Nat}{a b:World}(h:lh R a b):wD B R a b:=⟨h.os,h.tape,h.output,h.size,fun i hi _ c=>h.block i hi c⟩
theorem wD.of_below {B R:Nat}{w w':World}(h:Below w.heap.size w w'):wD B R w w':=⟨h.os,h.tape,h.output,h.size,fun k a _ _=>h.block k a⟩
theorem wD.below {B R N:Nat}{w w':World}(h:wD B R w w')(a:N<=B)(b:N<=R)(hs:N<=w.heap.size):Below N w w':=⟨h.os,h.tape,h.output,h.size,fun k c=>h.block k O O O⟩
theorem ar.lt {B R lb:Nat}{b:Bx}{w:World}(h:ar B R lb b w):B<w.heap.size/\R<w.heap.size:=by
 obtain⟨_,c,a,d,e,_⟩:=h;exact⟨(L6.1 e).1,(L6.1 c).1⟩
theorem ar.ats {B R lb:Nat}{b:Bx}{w:World}(h:ar B R lb b w):∃a cap,At B 0 (.slice (some ⟨R,0,none⟩) b.ring.length b.ring.length) w/\At B 1 b.rd w/\At B 2 b.nx w/\At B 3 (.slice a b.bl.length cap) w/\At B 4 b.nw w/\oB w w.heap.size a b.bl/\b.bl.length<=cap/\tz B R lb b.bl a:=by
 obtain⟨_,_,a,cap,d,h1,h2,e⟩:=h;have c:∀i v,(ie R b a cap)[i]? =some v->At B i v w:=fun i v f=>⟨by rw[Ln _ _ _ _ _ _ d];exact f,LT _ _ _ _ _ d⟩;exact⟨a,cap,c 0 _ Z,c 1 _ Z,c 2 _ Z,c 3 _ Z,c 4 _ Z,h1.tooB,h2,e⟩
theorem ar.typed {B R lb n cap:Nat}{a:Option Addr}{b:Bx}{w:World}(h:ar B R lb b w)(g:w.cell? ⟨B,3,none⟩=some (.slice a n cap))(i:0<b.bl.length)(d:Addr)(ha:a=some d):dX w d.block 149:=by
 obtain⟨_,_,j,c,f,h1,_⟩:=h;have k:w.cell? ⟨B,3,none⟩=some (.slice j b.bl.length c):=by rw[Ln _ _ _ _ _ _ f];rfl
 have e:=g.symm.trans k
 injection e with e
 injection e with e1 e2 e3
 exact h1.ty i d (e1.symm.trans ha)
theorem ar.below {B R lb:Nat}{b:Bx}{w w':World}(h:ar B R lb b w)(c:Below w.heap.size w w'):ar B R lb b w':=by
 have g:=h.lt;obtain⟨h0,k,a,d,f,h1,h2,l⟩:=h;exact⟨h0,(c.block R g.2).trans k,a,d,(c.block B g.1).trans f,⟨(h1.tooB.below c).mono c.size,fun i j e=>(h1.ty i j e).of (c.block _ (h1.ty i j e).lt)⟩,h2,l⟩
theorem ar.alloc {B R lb:Nat}{b:Bx}{w:World}(h:ar B R lb b w)(o:Obj):ar B R lb b (w.alloc o):=h.below ((L3 _ w).alloc (L4 _) o)
theorem ar.drew {B R lb:Nat}{b:Bx}{w:World}(h:ar B R lb b w):ar B R lb b w.drew:=h.below (L3 _ w).drew
theorem ar.set {B R lb:Nat}{b b':Bx}{w:World}(h:ar B R lb b w)(i:Nat)(v:Value)(hr:b'.ring=b.ring)(c:b'.bl=b.bl)(he:∀a cap,(ie R b a cap).setIfInBounds i v=ie R b' a cap):ar B R lb b' (w.setCell ⟨B,i,none⟩ v):=by
 have r:=h.lt;obtain⟨h0,j,a,cap,k,h1,h2,l⟩:=h;refine⟨h0,?_,a,cap,?_,?_,by rw[c];exact h2,by rw[c];exact l⟩
 ·unfold bR;rw[hr,Ma w ⟨B,i,none⟩ R v (Ne.symm h0)];exact j
 ·rw[LH _ _ _ _ _ _ k,he]
 rw[c];refine⟨⟨h1.small,fun d=> ?_⟩,fun d m e=>(h1.ty d m e).of (Ma _ _ _ _ (l.2 d m e).1)⟩;obtain⟨p,off,n,q,f⟩:=h1.cells d;have g:=(l.2 d _ n).1;exact⟨p,off,n,by simp[World.setCell];exact q,fun o hi=>⟨by rw[LU _ _ _ _ (fun e=>g (congrArg Addr.block e).symm)];exact(f o hi).1,by rw[LU _ _ _ _ (fun e=>g (congrArg Addr.block e).symm)];exact(f o hi).2⟩⟩
theorem ar.FG {B R lb:Nat}{b:Bx}{w:World}(h:ar B R lb b w)(f:Option Addr)(c:Nat)(L:List Sp)(hs:oB w w.heap.size f L)(g:L.length<=c)(d:tz B R lb L f)(m:0<L.length->∀i,f=some i->dX w i.block 149):ar B R lb { b with bl:=L } (w.setCell ⟨B,3,none⟩ (.slice f L.length c)):=by
 obtain⟨h0,n,a,r,o,h1,h2,u⟩:=h;refine⟨h0,?_,f,c,?_,?_,g,d⟩
 ·unfold bR;rw[Ma w ⟨B,3,none⟩ R _ (Ne.symm h0)];exact n
 ·rw[LH _ _ _ _ _ _ o];rfl
 refine⟨⟨hs.small,fun j=> ?_⟩,fun j i e=>(m j i e).of (Ma _ _ _ _ (d.2 j i e).1)⟩;obtain⟨s,off,p,t,k⟩:=hs.cells j;have l:=(d.2 j _ p).1;exact⟨s,off,p,by simp[World.setCell];exact t,fun q hi=>⟨by rw[LU _ _ _ _ (fun e=>l (congrArg Addr.block e).symm)];exact(k q hi).1,by rw[LU _ _ _ _ (fun e=>l (congrArg Addr.block e).symm)];exact(k q hi).2⟩⟩
theorem ar.ring {B R lb:Nat}{b:Bx}{rg:List UInt8}{w w':World}(h:ar B R lb b w)(hlen:rg.length=b.ring.length)(hr:bR R rg w')(f:lh R w w'):ar B R lb { b with ring:=rg } w':=by
 have q:=h.lt;obtain⟨h0,r,a,j,k,h1,h2,l⟩:=h;refine⟨h0,hr,a,j,?_,⟨⟨h1.small,fun c=> ?_⟩,fun c m e=>(h1.ty c m e).of (f.block _ (h1.ty c m e).lt (l.2 c m e).2.1)⟩,h2,l⟩
 ·rw[f.block B q.1 h0,k];unfold ie;dsimp only;rw[hlen]
 obtain⟨g,off,n,o,d⟩:=h1.cells c;have p:=f.block g o (l.2 c _ n).2.1;exact⟨g,off,n,Lb o f.size,fun i hi=>⟨(Lg (a:=⟨g,_,none⟩) p).trans (d i hi).1,(Lg (a:=⟨g,_,none⟩) p).trans (d i hi).2⟩⟩
theorem pG (B R lb:Nat)(b:Bx)(w:World)(h:ar B R lb b w)(ok:b.Ok) :
  Calls Tryz.prog 174 #[B] w fun e w'=>e= .returned (b.rd+b.ring.length:Int)/\w'=w.drew:=by
 obtain⟨a,c,⟨d,-⟩,⟨f,-⟩,-⟩:=h.ats;have h1:=ok.Do;have h2:=ok.small;have g:=ok.most
 go_enter Tryz.func174,Tryz.ntmps174
 go_wp2
 go_region
 all_goals
  go_wp2
  go_ret;exact⟨Z,Z⟩
theorem co (B R lb:Nat)(b:Bx)(w:World)(h:ar B R lb b w) :
  Calls Tryz.prog 83 #[B] w fun e w'=>e= .returned b.nx/\w=w':=by
 obtain⟨a,c,-,-,⟨d,-⟩,-⟩:=h.ats
 go_enter Tryz.func83,Tryz.ntmps83
 go_wp2
 go_ret;exact⟨Z,Z⟩
end
section
set_option maxRecDepth 100000
open Go.RowKit Go.Shelf
theorem sF {e:Int}{l:List Sp}(h:aJ e l=true):(l.length:Int)<=aD l:=by
 induction l generalizing e with
 | nil=>exact L9 _
 | cons x l a =>
  rw[aB]at h;have:=a h.2;show((x::l).length:Int)<=x.2-x.1+aD l;rw[Lx];omega
theorem AR {bl:List Sp}{lo hi:Int}(c:cW bl (lo,hi)=true){k:Nat}(a:k<(bt bl (lo,hi)).length) :
  lo<=(bt bl (lo,hi))[k].1/\(bt bl (lo,hi))[k].1<(bt bl (lo,hi))[k].2/\(bt bl (lo,hi))[k].2<=hi:=by
 obtain⟨d,b⟩:=cj c;have h1:=fD d a;have e:=(b (bt bl (lo,hi))[k].1).1 ⟨_,LP a,O,O⟩;have f:=(b ((bt bl (lo,hi))[k].2-1)).1 ⟨_,LP a,O,O⟩;dsimp only at e f;omega
theorem sG {rg:List UInt8}{off:Int}{s:List UInt8}{gs:List Sp}{k:Nat}(h:k<gs.length):bp rg off s (gs.take (k+1))=dK (bp rg off s (gs.take k)) gs[k].1.toNat (fB s off gs[k]):=by
 unfold bp;rw[Lv h,N2];rfl
theorem vA {rg:List UInt8}{off:Int}{s:List UInt8}{gs:List Sp}(h1:1<=rg.length)(h:∀g∈gs,(g.2-g.1).toNat<=rg.length):(bp rg off s gs).length=rg.length:=by
 induction gs generalizing rg with
 | nil=>rfl
 | cons g gs a =>
  have e:(dK rg g.1.toNat (fB s off g)).length=rg.length:=eZ _ _ _ h1 (L8 (lL _ _ _) (h g FE));show(bp (dK rg g.1.toNat (fB s off g)) off s gs).length=_;rw[a O (fun x b=>by rw[e];exact h x (by simp[b])),e]
theorem At.BS {B R i:Nat}{v:Value}{w w':World}(h:At B i v w)(d:lh R w w')(b:B≠R):At B i v w':=by
 have c:=d.block B h.lt b;exact⟨(Lg (a:=⟨B,i,none⟩) c).trans h.1,(NF (a:=⟨B,i,none⟩) c).trans h.2⟩
theorem oB.BS {w w':World}{n₀ R:Nat}{a:Option Addr}{L:List Sp}(h:oB w n₀ a L)(l:lh R w w')(m:n₀<=w.heap.size)(d:0<L.length->∀f,a=some f->f.block≠R):oB w' n₀ a L :=
 ⟨h.small,fun g=>by
  obtain⟨b,off,j,e,c⟩:=h.cells g;have k:=l.block b O (d g _ j);exact⟨b,off,j,e,fun i hi=>⟨(Lg (a:=⟨b,_,none⟩) k).trans (c i hi).1,(Lg (a:=⟨b,_,none⟩) k).trans (c i hi).2⟩⟩⟩
theorem oB.tail {w:World}{n₀ b off:Nat}{x:Sp}{L:List Sp}(h:oB w n₀ (some ⟨b,off,none⟩) (x::L)):oB w n₀ (some ⟨b,off+2,none⟩) L:=by
 refine⟨by have:=h.small;rw[Lx]at this;omega,fun _=> ?_⟩;obtain⟨j,a,e,c,d⟩:=h.cells FE
 cases e
 refine⟨b,off+2,Z,c,fun i hi=> ?_⟩;obtain⟨f,g⟩:=d (i+1) Jj;rw[show off+2+i*2=off+(i+1)*2 by omega];exact⟨f,g⟩
theorem AS (s:ByteArray)(off:Int)(g:Sp)(i j:Nat)(hi:g.1-off=i)(a:g.2-off=j):(s.extract i j).data.toList=fB s.data.toList off g:=by
 unfold fB;rw[NL,Array.toList_extract,List.extract_eq_take_drop,hi,show g.2-g.1=(j:Int)-i by omega]
 congr 1
 omega
set_option maxHeartbeats 4000000 in
theorem AT (B R lb:Nat) (b:Bx) (off:Int) (s:ByteArray) (w:World) (h:ar B R lb b w) (ok:b.Ok) (g2:lb<=w.heap.size) (hs:s.size<=4611686018427387904) :
  Calls Tryz.prog 173 #[B,off,.string s] w fun e w'=>e= .returned (.tuple #[(b.FC off s.size:Int),(xM off)])/\ar B R lb (b.put off s.data.toList) w'/\wD B R w w':=by
 by_cases d:off<0\/1099511627776<off
 ·have U:=H (show b.FC off s.size=0/\xM off=130/\b.put off s.data.toList=b from⟨by unfold Bx.FC;rw[L7 d],by unfold xM;rw[L7 d],by unfold Bx.put;rw[L7 d]⟩);rw[U.1,U.2.1,U.2.2]
  rcases d with d | d
  all_goals
   (try have ey:0<=off:=O)
   go_enter Tryz.func173,Tryz.ntmps173
   go_wp2_with fail;exact Lm (NE Z _ _ _) Z ⟨Z,h,wD.refl _ _ _⟩
 have U:=H (show b.FC off s.size=(if b.hi off s.size<=b.lo off then 0 else dw (bt b.bl (b.lo off,b.hi off s.size)))/\xM off=0/\b.put off s.data.toList=(if b.hi off s.data.toList.length<=b.lo off then b else b.EB off s.data.toList (b.lo off,b.hi off s.data.toList.length))from⟨by unfold Bx.FC;rw[L5 d],by unfold xM;rw[L5 d],by unfold Bx.put;rw[L5 d]⟩);rw[U.1,U.2.1,U.2.2,show s.data.toList.length=s.size from(Lib.size_eq s).symm];clear U;obtain⟨e4,e5⟩:0<=off/\off<=1099511627776:=O
 clear d;obtain⟨lo,M⟩:∃lo,lo=b.lo off:=⟨_,Z⟩;obtain⟨hi,N⟩:∃hi,hi=b.hi off s.size:=⟨_,Z⟩;rw[<-M,<-N];unfold Bx.lo at M;unfold Bx.hi at N;have e6:=H M;have d7:=H N;clear M N;obtain⟨a,P,⟨c0,-⟩,⟨c1,-⟩,⟨c2,-⟩,⟨c3,-⟩,-⟩:=h.ats;have ac:=H h;have b7:=H ok;have k1:=ok.Do;have k2:=ok.small;have k3:=ok.most;have k4:=ok.one;have k5:=ok.xK;have k6:=ok.Ck;have S:=h.lt;have cF:off+(s.size:Int)<=9223372036854775807:=O
 have cL: -9223372036854775808<=off+(s.size:Int):=O
 clear h ok
 go_enter Tryz.func173,Tryz.ntmps173
 go_wp2_with fail;refine wp_mono (Q:=mE (fun a' w'=>a'={ tmps:= #[.pointer (some ⟨B,0,none⟩),.int .i64 off,.string s,undef,undef,undef,.int .i64 0,.int .i64 0,.pointer (some ⟨w.heap.size,0,none⟩),undef,undef,undef,.pointer (some ⟨B,0,none⟩),.bool false,.int .i64 off,.bool (decide (off<0)),.bool (decide (off<0)),.int .i64 off,.bool (decide (1099511627776<off)),.bool (decide (off<0)||decide (1099511627776<off)),.int .i64 off,.pointer (some ⟨B,0,none⟩),.pointer (some ⟨B,0,none⟩),.pointer (some ⟨B,2,none⟩),.int .i64 b.nx,.int .i64 lo,.int .i64 off,.string s,.int .i64 (s.size:Int),.int .i64 (off+(s.size:Int)),.pointer (some ⟨B,0,none⟩),.int .i64 (b.rd+(b.ring.length:Int)),.int .i64 hi,.agg #[.int .i64 lo,.int .i64 hi],undef,undef,undef,undef,undef,undef,undef,undef,undef,undef,undef,undef,undef,undef,undef,undef,undef,undef,undef,undef,undef,undef,undef,undef,undef,undef,undef,undef,undef,undef,undef,undef,undef,undef,undef,undef,undef,undef,undef,undef,undef,undef,undef,undef,undef,undef,undef,undef,undef,undef,undef,undef,undef,undef,undef,undef,undef,undef,undef,undef,undef,undef,undef,undef,undef,undef,undef,undef,undef,undef,undef,undef,undef,undef,undef,undef,undef,undef,undef,undef,undef,undef,undef,undef,undef,undef],defers:=[] }/\ar B R lb b w'/\At w.heap.size 0 (.int .i64 lo) w'/\At w.heap.size 1 (.int .i64 hi) w'/\wD B R w w'/\w.heap.size+1<=w'.heap.size)) ?_ (lN ?_)
 ·refine az (fun w':World=>w'.cell? ⟨B,2,none⟩=some (b.nx:Y)) (c2) fun f=>?_;refine aA 0 1 2 3 ?_;refine aQ 4 ?_;refine aQ 5 (v:=.int .i64 lo) ?_ (hy:=by intro w m;go_simp;(have:=e6.o;split <;> (congr 3;omega)));refine aM 6 7 ?_;refine aQ 8 ?_;refine aQ 9 (v:=.int .i64 (off+(s.size:Int))) ?_ (hy:=by intro w m;go_simp;(first | exact LC _ ⟨cL,cF⟩ | rw[LC _ ⟨cL,cF⟩]));refine aQ 10 ?_;refine wpAnyH_ready (rs:=[11,14]) IG FE ?_;refine AllReadyH.cons (by simp only[Lt,Ls,Lo];rfl) (fun n c=> ?_) (AllReadyH.cons (by simp only[Lt,Ls,Lo];rfl) (fun n c=> ?_) AllReadyH.nil)
  focus
   go_simp;refine(pG B R lb b _ (ac.drew) b7.o).mono ?_;rintro e w1⟨rfl,rfl⟩;go_simp;refine c.out _ _ c2 ?_;clear c n f;refine fun f=>aW ?_;refine aQ 12 (v:=.int .i64 hi) ?_ (hy:=KC);refine aQ 13 ?_;refine aZ 14 fun n c=> ?_;go_simp;refine c.out _ _ (((L3 _ w).alloc (L4 _) _ |>.cell (p:=⟨B,2,none⟩) S.1).trans c2) ?_;clear c n f;refine fun f=>aW ?_
  rotate_left 1
  focus
   go_simp;refine c.out _ _ (((L3 _ w).alloc (L4 _) _ |>.cell (p:=⟨B,2,none⟩) S.1).trans c2) ?_;clear c n f;refine fun f=>aW ?_;refine aZ 11 fun n c=> ?_;go_simp;refine(pG B R lb b _ ((ac.alloc _).drew) b7.o).mono ?_;rintro e w1⟨rfl,rfl⟩;go_simp;refine c.out _ _ (((L3 _ w).alloc (L4 _) _ |>.cell (p:=⟨B,2,none⟩) S.1).trans c2) ?_;clear c n f;refine fun f=>aW ?_;refine aQ 12 (v:=.int .i64 hi) ?_ (hy:=KC);refine aQ 13 ?_
  all_goals
   refine aZ 15 fun n c=> ?_;go_simp;refine c.out _ _ (((L3 _ w).alloc (L4 _) _ |>.cell (p:=⟨B,2,none⟩) S.1).trans c2) ?_;clear c n f;refine fun f=>aW ?_;refine ay ?_ _;clear f;refine⟨Z,(ac.alloc _).drew.drew,At.new (W:=w) _ Z Z,At.new (W:=w) _ Z Z,wD.of_below (((L3 _ w).alloc (L4 _) _).drew.drew),FE⟩
 rintro a' J⟨rfl,a0,c4,d0,F,d1⟩;clear c0 c1 c2 c3 a P;obtain⟨a,P,-,-,-,c3,-,cM,f2,cS⟩:=a0.ats;have d8:=H a0;have e7:=H F;have d9:=H c4;have da:=H d0;have gT:=H cM;have hf:=H cS;clear a0 F cM cS;obtain⟨p0,-⟩:=c4;obtain⟨p1,-⟩:=d0;by_cases d2:hi<=lo
 ·go_wp2_with fail;exact Lm (NE Z _ _ _) Z ⟨by(try rw[L7 d2]);rfl,by(try rw[L7 d2]);exact d8.o,e7.o⟩
 have d3:cW b.bl (lo,hi)=true:=bm.2 ⟨b7.canon,by have:=e6.o;have:=d7.o;dsimp only;omega⟩;have cT:=H d3;have gX:0<=lo/\off<=lo/\b.rd<=lo:=by have:=e6.o;omega
 have g4:hi<=off+s.size/\hi<=b.rd+b.ring.length:=by have:=d7.o;omega
 clear d3;go_wp2_with fail;refine az (fun w':World=>w'.cell? ⟨B,3,none⟩=some (.slice a b.bl.length P)/\w'.cell? w.heap.size=some (.int .i64 lo)/\w'.cell? ⟨w.heap.size,1,none⟩=some (.int .i64 hi)) (⟨c3.1,p0,p1⟩) fun f=>?_;refine aA 0 1 2 3 ?_;refine aQ 4 ?_;refine aZ 5 fun n c=> ?_;go_simp;refine(qS J.drew J.heap.size a P b.bl (lo,hi) (gT.below (L3 _ _).drew) (L4 _)).mono ?_;rintro e t⟨v,rfl,ho,r⟩;have d5:=d8.drew.below r;have q0:=d9.below (W':=t) ((L3 _ J).drew.trans r) (show w.heap.size<J.heap.size by omega);have q1:=da.below (W':=t) ((L3 _ J).drew.trans r) (show w.heap.size<J.heap.size by omega);obtain⟨va,vc,hv,u,-,a3⟩:=ho.at (bf (cj cT.o).1);subst hv;have f3:=c3.below (W':=t) ((L3 _ J).drew.trans r) (show B<J.heap.size by have:=d8.lt;omega);go_simp;refine c.out _ _ (⟨f3.1,q0.1,q1.1⟩) ?_;clear c n f;refine fun f=>aW ?_;refine aQ 6 ?_;refine ay ?_ _;clear f;have dc:=H d5;have cV:=H q0;have cX:=H q1;have f4:=H u;have fs:=d8.lt;have b8:=H (show tz B R lb (bt b.bl (lo,hi)) va from⟨fun l e=>(a3 l e).2.2,fun _ l e=>by have:=(a3 l e).1;have h2:J.heap.size<=l.block:=this;have:=e7.size;omega⟩);have aC:=H (e7.trans (wD.of_below (B:=B) (R:=R) ((L3 _ J).drew.trans r)));have g3:w.heap.size+1<=t.heap.size:=L8 d1 r.size;have g5:J.heap.size<=t.heap.size:=r.size;have e8:=H (fun k (hk:k<(bt b.bl (lo,hi)).length)=>AR cT.o hk);have f5:=H (bf (cj cT.o).1);clear d5 q0 q1 u a3 ho c3 f3 p0 p1 r d1;generalize f6:bt b.bl (lo,hi)=gs at e8 f4 b8 f5|-;have di:=H f6;clear f6;have h0:=f5.o;go_wp2_with fail
 go_loopw [47] (fun p wr=>∃k:Nat,k<=gs.length/\p= .int .i64 k/\ar B R lb { b with ring:=bp b.ring off s.data.toList (gs.take k) } wr/\At w.heap.size 0 (.int .i64 lo) wr/\At w.heap.size 1 (.int .i64 hi) wr/\oB wr t.heap.size va gs/\wD B R w wr/\t.heap.size<=wr.heap.size) (fun p _=>gs.length-(intOf p).toNat)
 case atStart=>exact⟨0,LW _,Z,dc.o,cV.o,cX.o,f4.o,aC.o,L4 _⟩
 case round =>
  obtain⟨k,hk,rfl,d4,a4,a9,u,F,d6⟩:=hrel;have V:=H d4;have cV:=H a4;have cX:=H a9;have HV:=H u;have f7:=H F;by_cases b5:k<gs.length
  ·obtain⟨vb,vo,f8,h3,e0⟩:=u.cells O;have e9:=b8.2 O _ f8;subst f8;obtain⟨g0,g1⟩:=e0 k b5;obtain⟨b1,b2,b3⟩:=e8.o k b5;obtain⟨G,f9⟩:=LY (show 0<=gs[k].1 by omega);obtain⟨i,e1⟩:=LY (show 0<=gs[k].1-off by omega);obtain⟨j,fa⟩:=LY (show 0<=gs[k].2-off by omega);have g6:=H (sG (rg:=b.ring) (off:=off) (s:=s.data.toList) b5);have g7:=H (AS s off gs[k] i j e1 fa);have g8:=H (show gs[k].1.toNat=G by omega);have K:(bp b.ring off s.data.toList (gs.take k)).length=b.ring.length:=vA k4 (fun g hg=>by obtain⟨x,hx,rfl⟩:=Nj.1 (Ni hg);have:=e8.o x hx;omega);have h4:i<=j:=by omega
   have h5:j<=s.size:=O
   have h6:j-i<=b.ring.length:=O
   have g9:G<=4611686018427387904:=O
   generalize gs[k]=gk at *;obtain⟨i3,T⟩:=gk;dsimp only at g0 g1 b1 b2 b3 f9 e1 fa;subst f9;have ea:(k:Int)<(gs.length:Int):=O
   have i4:w.heap.size<wr.heap.size:=O
   clear d4 a4 a9 u F e0;go_wp2_with fail;have e2:=(V.alloc (.cells #[(G:Int),T] 149)).drew;have bI:=H e2;have z0:At wr.heap.size 0 (G:Int) (wr.alloc (.cells #[(G:Int),T] 149)).drew:=At.new (W:=wr) _ Z Z;have z1:At wr.heap.size 1 T (wr.alloc (.cells #[(G:Int),T] 149)).drew:=At.new (W:=wr) _ Z Z;clear e2;refine az (fun w':World=>w'.cell? wr.heap.size=some ((G:Int):Y)/\w'.cell? ⟨wr.heap.size,1,none⟩=some (T:Y)) (⟨z0.1,z1.1⟩) fun f=>?_;refine aA 0 1 2 3 ?_;refine aM 4 5 ?_;refine aQ 6 ?_;refine aQ 7 (v:=.int .i64 (i:Int)) ?_ (hy:=by intro w m;(obtain⟨y0,X⟩:=m);go_simp;(exact LC (i:Int) ⟨O,O⟩));refine aM 8 9 ?_;refine aQ 10 ?_;refine aQ 11 (v:=.int .i64 (j:Int)) ?_ (hy:=by intro w m;(obtain⟨y0,X⟩:=m);go_simp;(exact LC (j:Int) ⟨O,O⟩));refine aQ 12 (v:=.string (s.extract i j)) ?_ (hy:=by intro w m;(obtain⟨y0,X⟩:=m);go_simp;(first | done | skip));refine aZ 13 fun n c=> ?_;go_simp;refine(x9 B R (bp b.ring off s.data.toList (gs.take k)) G (s.extract i j) (wr.alloc (.cells #[(G:Int),T] 149)).drew (by obtain⟨_,_,h,_⟩:=bI.ats;exact h.1) bI.2.1 bI.1 (by rw[K];exact k4) (by rw[K];exact k3) (by rw[NK,K];omega) g9).mono ?_;rintro e W3⟨rfl,e3,q⟩;go_simp;refine c.out _ _ (⟨mM q z0.1 (by have:=V.lt;omega),mM q z1.1 (by have:=V.lt;omega)⟩) ?_;clear c n f;refine fun f=>aW ?_;refine ay ?_ _;clear f z0 z1;have I:wD B R wr (wr.alloc (.cells #[(G:Int),T] 149)).drew:=wD.of_below ((L3 _ wr).alloc (L4 _) _).drew;have b9:=bI.ring (rg:=dK (bp b.ring off s.data.toList (gs.take k)) G (s.extract i j).data.toList) (by rw[eZ _ _ _ (by rw[K];exact k4) (by rw[<-Lib.size_eq,NK,K];omega)]) e3 q;have cY:w.heap.size≠R:=O
   have f0:=V.lt;have y0:=((cV.alloc (.cells #[(G:Int),T] 149)));have X:=((cX.alloc (.cells #[(G:Int),T] 149)))
   have ga:Hid (ar B R lb { b with ring:=bp b.ring off s.data.toList (gs.take (k+1)) } W3/\At w.heap.size 0 (.int .i64 lo) W3/\At w.heap.size 1 (.int .i64 hi) W3/\oB W3 t.heap.size (some ⟨vb,vo,none⟩) gs/\wD B R w W3/\t.heap.size<=W3.heap.size):=by
    refine⟨?_,y0.BS q.EN cY,X.BS q.EN cY,?_,f7.trans (I.trans (wD.Iq q)),?_⟩
    ·rw[g6.o,g8.o,<-g7.o];exact b9
    ·refine oB.BS (HV.below ((L3 _ wr).alloc d6 _)) q.EN IH (fun _ l e=>by cases e;exact e9.2.1)
    have:=q.size;simp at this;omega
   clear b9 y0 X q e3 I;go_wp2_with fail
   go_roundw
   case rel=>exact⟨k+1,O,IK,ga.out⟩
   case measure=>simp[intOf];omega
  obtain rfl:k=gs.length:=O
  rw[LS]at V;obtain⟨a2,f1,-,-,-,n3,n4,c5,c6,-⟩:=V.ats;obtain⟨gc,gd⟩:=n4;obtain⟨gg,gj⟩:=cV.o;obtain⟨gl,gm⟩:=cX.o;have ir:=V.lt;have gw:w.heap.size<wr.heap.size:=O
  have HN:=H (V.set (b':={ b with ring:=bp b.ring off s.data.toList gs,nw:=lo }) 4 (.int .i64 lo) Z Z (fun _ _=>rfl));have gx:=H (n3.other ⟨B,4,none⟩ (.int .i64 lo) FE);have eb:=H c5;have ec:=H n3;clear c5 n3 d4 a4 a9 u F;go_wp2_with fail;have ba:=H (f7.trans (wD.GV (R:=R) (((lh.refl B wr).setCell 4 (.int .i64 lo)))));have d9:=H (cV.ob (C:=B) (j:=4) (.int .i64 lo) O);have da:=H (cX.ob (C:=B) (j:=4) (.int .i64 lo) O);have gy:=H (oB.BS HV.o ((lh.refl B wr).setCell 4 (.int .i64 lo)) d6 (fun hp l e=>(b8.2 hp l e).1));have h7:(wr.setCell ⟨B,4,none⟩ (.int .i64 lo)).heap.size=wr.heap.size:=by simp[World.setCell]
  generalize wr.setCell ⟨B,4,none⟩ (.int .i64 lo)=W5 at *;obtain⟨a5,ed,-,-,-,m3,-,fb,fd,iv⟩:=HN.ats;have eg:=H fb;have j1:=H m3;obtain⟨hA,j2⟩:=m3;obtain⟨fe,j3⟩:=d9.o;obtain⟨ff,j4⟩:=da.o;dsimp only at hA fd;clear fb gg gj gl gm gc gd gx eb ec c6;refine az (fun w':World=>w'.cell? w.heap.size=some (.int .i64 lo)/\w'.cell? ⟨w.heap.size,1,none⟩=some (.int .i64 hi)) (⟨fe,ff⟩) fun f=>?_;refine aA 0 1 2 3 ?_;refine aQ 5 ?_;refine aZ 4 fun n c=> ?_;go_simp;refine c.out _ _ (⟨fe,ff⟩) ?_;clear c n f;refine fun f=>aW ?_;refine aZ 6 fun n c=> ?_;go_simp;refine(AQ W5.drew W5.heap.size a5 ed b.bl (lo,hi) (eg.below (L3 _ _).drew) (L4 _) fd).mono ?_;rintro e W6⟨v,rfl,ho,av⟩;have aF:Below W5.heap.size W5 W6:=(L3 _ W5).drew.trans av;have r0:=d9.below (W':=W6) aF O;have r1:=da.below (W':=W6) aF O;obtain⟨c7,c8,hv,c9,b0,b4⟩:=ho.at (bf (ia cT.o).1);subst hv;have ei:=HN.below aF;obtain⟨_,_,-,-,-,⟨hE,hF⟩,-⟩:=ei.ats;go_simp;refine c.out _ _ (⟨r0.1,r1.1⟩) ?_;clear c n f;refine fun f=>aW ?_;refine aM 7 8 ?_;have j5:w.heap.size≠B:=O
  refine aZ 9 fun n c=> ?_;go_simp;refine c.out _ _ (⟨(r0.ob _ O).1,(r1.ob _ O).1⟩) ?_;clear c n f;refine fun f=>aW ?_;refine ay ?_ _;clear f;have bc:=H (ei.FG c7 c8 (fN b.bl (lo,hi)) c9 b0 ⟨fun l e=>(b4 l e).2.2,fun _ l e=>by have h1:=(b4 l e).1;have h2:W5.heap.size<=l.block:=h1;have:=ba.size;omega⟩ (fun _=>ho.ty));have dk:=H ((ba.trans (wD.of_below aF)).trans (wD.GV (R:=R) ((lh.refl B W6).setCell 3 (.slice c7 (fN b.bl (lo,hi)).length c8))));have b6:=H (oB.BS (gy.below (aF.mono O)) ((lh.refl B W6).setCell 3 (.slice c7 (fN b.bl (lo,hi)).length c8)) (by have:=aF.size;omega) (fun hp l e=>(b8.2 hp l e).1));have hG:W5.heap.size<=(W6.setCell ⟨B,3,none⟩ (.slice c7 (fN b.bl (lo,hi)).length c8)).heap.size:=by simp[World.setCell];exact aF.size
  clear r0 r1 ei c9 b4 hE hF av aF ho
  obtain⟨x,y,I⟩:∃x y,fN b.bl (lo,hi)=x::y:=by
   have hm:=(ia cT.o).2 lo
   cases hc:fN b.bl (lo,hi)with
   | nil=>rw[hc]at hm;exact(a8 (hm.2 (.inl ⟨L9 _,II⟩))).elim
   | cons x y=>exact⟨x,y,Z⟩
  have fk:=H I;rw[I]at bc dk b6 hG b0|-;clear I;generalize W6.setCell ⟨B,3,none⟩ (.slice c7 (x::y).length c8)=W7 at *;obtain⟨a7,a1,-,-,⟨el,j6⟩,⟨ca,jv⟩,-,em,fl,hH⟩:=bc.ats;obtain⟨z,A,en,h8,fm⟩:=em.cells FE;have a6:=hH.2 FE _ en;have cb:=bc.typed ca FE _ en;subst en;obtain⟨x0,x1⟩:=fm 0 FE;obtain⟨X,E⟩:=x;simp only[No,Nq,MC]at x0 x1;have eo:=H em;dsimp only at el ca fl;simp only[Lx]at ca fl b0|-;clear fm em;have hI:=H (show lo<hi from O);by_cases cf:X=b.nx
  ·subst cf;go_wp2_with fail;refine az (fun w':World=>w'.cell? ⟨B,2,none⟩=some (b.nx:Y)/\w'.cell? ⟨B,3,none⟩=some (.slice (some ⟨z,A,none⟩) (y.length+1) a1)/\w'.cell? ⟨z,A,none⟩=some (b.nx:Y)) (⟨el,ca,x0⟩) fun f=>?_;refine aA 0 1 2 3 ?_;refine aA 4 5 6 7 ?_;refine aA 8 9 10 11 ?_;refine aA 12 13 14 15 ?_;refine aA 16 17 18 19 ?_;refine ay ?_ _;clear f;have cg:=eo.tail;by_cases h9:a1=1
   focus
    obtain rfl:y=[]:=LR O;have cf:=True.intro;have am:oB W7 W7.heap.size (some ⟨z,A,none⟩) []:=⟨FE,fun h=>by simp at h⟩;have dl:=H ((bc.set (b':={ ring:=bp b.ring off s.data.toList gs,rd:=b.rd,nx:=E,bl:=(b.nx,E)::[],nw:=lo }) 2 E Z Z (fun _ _=>rfl)).FG (some ⟨z,A,none⟩) 0 [] KB (by first | omega | simp) ⟨fun l e=>by cases e;rfl,fun _ l e=>by cases e;exact a6⟩ (fun _ l e=>by cases e;exact cb.of (Ma _ _ _ _ a6.1)));have dn:=H (dk.trans (wD.GV (R:=R) (((lh.refl B W7).setCell 2 E).setCell 3 (.slice (some ⟨z,A,none⟩) 0 0))));have dp:=H (oB.BS b6.o (((lh.refl B W7).setCell 2 E).setCell 3 (.slice (some ⟨z,A,none⟩) 0 0)) O (fun hp l e=>(b8.2 hp l e).1));have ds:t.heap.size<=((W7.setCell ⟨B,2,none⟩ E).setCell ⟨B,3,none⟩ (.slice (some ⟨z,A,none⟩) 0 0)).drew.heap.size:=by simp[World.setCell];omega
   rotate_left 1
   focus
    have cf:=True.intro;have am:oB W7 W7.heap.size (some ⟨z,A+2,none⟩) y:=cg;have dl:=H ((bc.set (b':={ ring:=bp b.ring off s.data.toList gs,rd:=b.rd,nx:=E,bl:=(b.nx,E)::y,nw:=lo }) 2 E Z Z (fun _ _=>rfl)).FG (some ⟨z,A+2,none⟩) (a1-1) y KB (by first | omega | simp) ⟨fun l e=>by cases e;rfl,fun _ l e=>by cases e;exact a6⟩ (fun _ l e=>by cases e;exact cb.of (Ma _ _ _ _ a6.1)));have dn:=H (dk.trans (wD.GV (R:=R) (((lh.refl B W7).setCell 2 E).setCell 3 (.slice (some ⟨z,A+2,none⟩) y.length (a1-1)))));have dp:=H (oB.BS b6.o (((lh.refl B W7).setCell 2 E).setCell 3 (.slice (some ⟨z,A+2,none⟩) y.length (a1-1))) O (fun hp l e=>(b8.2 hp l e).1));have ds:t.heap.size<=((W7.setCell ⟨B,2,none⟩ E).setCell ⟨B,3,none⟩ (.slice (some ⟨z,A+2,none⟩) y.length (a1-1))).drew.heap.size:=by simp[World.setCell];omega
   all_goals
    clear am;clear cg;go_wp2_with fail;refine(ep _ t.heap.size va vc gs (dp.below (L3 _ _).drew) ds).mono ?_;rintro e W9⟨rfl,L⟩;have ch:=H ((L3 _ _).drew.trans L);clear L;go_wp2_with fail;refine Lm (NE Z _ _ _) Z ⟨?_,?_,dn.trans (wD.of_below ch.o)⟩
    ·rw[di.o];rfl
    have:=dl.below ch.o;unfold Bx.EB;rw[di.o,fk.o]
    simpa[fC,gZ,cf]using this
  go_wp2_with fail;refine az (fun w':World=>w'.cell? ⟨B,2,none⟩=some (b.nx:Y)/\w'.cell? ⟨B,3,none⟩=some (.slice (some ⟨z,A,none⟩) (y.length+1) a1)/\w'.cell? ⟨z,A,none⟩=some (X:Y)) (⟨el,ca,x0⟩) fun f=>?_;refine aA 0 1 2 3 ?_;refine aA 4 5 6 7 ?_;refine aA 8 9 10 11 ?_;refine aA 12 13 14 15 ?_;refine aA 16 17 18 19 ?_;refine ay ?_ _;clear f;have dl:=bc;have dn:=dk;have dp:=b6;have ds:t.heap.size<=W7.drew.heap.size:=by show t.heap.size<=W7.heap.size;omega
  go_wp2_with fail;refine(ep _ t.heap.size va vc gs (dp.below (L3 _ _).drew) ds).mono ?_;rintro e W9⟨rfl,L⟩;have ch:=H ((L3 _ _).drew.trans L);clear L;go_wp2_with fail;refine Lm (NE Z _ _ _) Z ⟨?_,?_,dn.trans (wD.of_below ch.o)⟩
  ·rw[di.o];rfl
  have:=dl.below ch.o;unfold Bx.EB;rw[di.o,fk.o]
  simpa[fC,gZ,cf]using this
end
section
set_option maxRecDepth 100000
open Go.RowKit Go.Shelf
theorem mO:(Tryz.prog.info? 5).map (fun i=>(i.zero,i.size,i.bytes))=some (some (.int .u8 0),1,1):=by kernel_rfl
theorem iV {w:World}{base g n cap:Nat}{rg:List UInt8}(h:w.ownsRow base 5 1 (.slice (some ⟨g,0,none⟩) n cap) n (Lib.byteCells rg))(d:cap=n):bR g rg w:=by
 rcases h.2 with⟨e,_⟩ | ⟨j,c,f,e,_,i,_,_,a,b⟩
 ·cases e
 cases e
 subst d;rw[Nat.mul_one]at a b;rw[Mc (by rw[NT];omega)]at b;unfold bR;rw[i,<-b]
theorem AU (n:Nat) (h1:1<=n) (h2:n<=8192) (w:World) :
  Calls Tryz.prog 61 #[.int .i64 n] w fun e w'=>∃B R,e= .returned (.tuple #[.pointer (some ⟨B,0,none⟩),(0:Int)])/\(∀lb,ar B R lb (nZ n) w')/\Below w.heap.size w w'/\w.heap.size<=B/\w.heap.size<=R:=by
 obtain⟨q,hi,c,d,f⟩:=MG mO
 go_enter Tryz.func61,Tryz.ntmps61
 go_wp2_with (first | (at_make;refine wpList_make_full _ Z _ _ _ Z w.heap.size 5 q _ 1 Tryz.underlying72 hi c d _ _ _ _ n Z Z Z Z (by rw[f];omega) IX (L4 _) ?_))
 intro g a b
 have m:bR w.heap.size (List.replicate n 0) g:=by
  refine iV (base:=w.heap.size) (n:=n) (cap:=n) ?_ Z
  have e:(madeCells #[Value.int .u8 0] n).toList=Lib.byteCells (List.replicate n 0):=by
   apply List.ext_getElem
   ·simp[madeCells,Lib.byteCells]
   intro i h1 h2
   simp[madeCells,Lib.byteCells,Nat.mod_one]
  rw[<-e];exact a
 have j:=(ME a w.heap.size Z).2;have p:Below w.heap.size w g:=aR b (L4 _) (fun k e=>by cases e);have r:=H m;have l:=H p;clear a b m p;go_wp2_with fail;refine Lm (NE Z _ _ _) Z ⟨g.heap.size,w.heap.size,Z,fun lb=>⟨O,?_,none,0,?_,⟨⟨by simp[nZ],fun h=>by simp[nZ]at h⟩,fun h=>by simp[nZ]at h⟩,by simp[nZ],fun s e=>IU,fun h=>by simp[nZ]at h⟩,l.alloc l.size _,l.size,L4 _⟩
 ·unfold bR;rw[Me _ _ _ j];exact r.o
 rw[Lp];unfold ie nZ
 simp
theorem xg (n:Nat)(h1:1<=n)(h2:n<=8192):(nZ n).Ok:=by
 have e:(nZ n).ring.length=n:=by simp[nZ]
 refine⟨O,O,L9 _,L9 _,?_,?_,Z,fun i hi=>(a8 hi).elim⟩
 ·rw[e];show(0:Int)<=0+n;omega
 rw[e];show(0:Int)+n<=_;omega
theorem lv (B R lb:Nat)(b:Bx)(w:World)(h:ar B R lb b w)(ok:b.Ok) :
  Calls Tryz.prog 50 #[B] w fun e w'=>e= .returned (b.nx-b.rd:Int)/\w'=w.drew:=by
 obtain⟨a,c,-,⟨d,-⟩,⟨f,-⟩,-⟩:=h.ats;have h1:=ok.Do;have h2:=ok.small;have g:=ok.most;have i:=ok.xK;have j:=ok.Ck
 go_enter Tryz.func50,Tryz.ntmps50
 go_wp2
 go_region
 all_goals
  go_wp2
  go_ret;exact⟨Z,Z⟩
theorem xh (B R lb:Nat)(b:Bx)(w:World)(h:ar B R lb b w)(ok:b.Ok) :
  Calls Tryz.prog 141 #[B] w fun e w'=>e= .returned (b.rd+b.ring.length-b.nx:Int)/\w'=w.drew.drew:=by
 obtain⟨a,c,-,-,⟨d,-⟩,-⟩:=h.ats;have h1:=ok.Do;have h2:=ok.small;have f:=ok.most;have g:=ok.xK;have i:=ok.Ck;have hw:=LC (b.rd+(b.ring.length:Int)-b.nx) ⟨O,O⟩
 go_enter Tryz.func141,Tryz.ntmps141
 go_wp2_with fail
 go_region_with (first | (go_at_call 174;refine(pG B R lb b _ h.drew ok).mono ?_;rintro e w' ⟨rfl,rfl⟩))
 all_goals
  go_wp2;go_ret;exact⟨Z,Z⟩
end

structure PI (S:List UInt8)(N:Nat)(b:Bx)(got:List UInt8):Prop where
 ok:b.Ok
 len:S.length=N
 small:N<=1000
 str:b.Str S
 rd:b.rd=got.length
 got:got=S.take got.length
 has:∀i,b.has i->i<N
theorem PI.nx {S:List UInt8}{N:Nat}{b:Bx}{got:List UInt8}(h:PI S N b got):b.nx<=N:=by
 rcases(show b.nx<=N\/(N:Int)<b.nx by omega)with g | g
 ·exact g
 have:=h.has N (.inl O);omega
theorem PI.start {S:List UInt8}{N:Nat}(hl:S.length=N)(hs:N<=1000){n:Nat}(h1:1<=n)(h2:n<=8192):PI S N (nZ n) []:=by
 refine⟨xg n h1 h2,hl,hs,fun i _ b=> ?_,Z,FE,fun i b=> ?_⟩
 ·rcases b with⟨_,g⟩ | g
  ·have:(i:Int)<0:=g;omega
  exact(a8 g).elim
 rcases b with⟨a,g⟩ | g
 ·have:i<0:=g;omega
 exact(a8 g).elim
theorem PI.put {S:List UInt8}{N:Nat}{b:Bx}{got:List UInt8}(h:PI S N b got){off to:Nat}(h1:off<=to)(h2:to<=N){s:List UInt8}(hs:s=(S.drop off).take (to-off)) :
  PI S N (b.put off s) got/\(b.put off s).rd=b.rd/\(b.put off s).ring.length=b.ring.length/\b.nx<=(b.put off s).nx/\(off<=b.nx->b.nx<to->b.nx<b.rd+b.ring.length->b.nx<(b.put off s).nx):=by
 have c:=h.small;have j:=h.len;have a:s.length=to-off:=by rw[hs,Le,Lq];omega
 obtain⟨p1,d,k,l,f⟩:=Bx.Dd h.ok s (off:=off) O O;refine⟨⟨p1,j,c,?_,d.trans h.rd,h.got,fun i hi=> ?_⟩,d,k,l,fun g1 o m=> ?_⟩
 ·refine h.str.put h.ok s O (fun i p n=> ?_);rw[a]at n;rw[hs,M2 O,MW]
  congr 1
  omega
 ·rcases(f i).1 hi with g | g
  ·exact h.has i g
  rw[a]at g;omega
 rcases(show b.nx=(b.put off s).nx\/b.nx<(b.put off s).nx by omega)with e | e
 ·exfalso
  apply p1.FD
  rw[<-e];exact(f _).2 (.inr ⟨g1,Jh,m⟩)
 exact e
theorem PI.take {S:List UInt8}{N:Nat}{b:Bx}{got:List UInt8}(h:PI S N b got)(k:Int) :
  PI S N (b.take k) (got++b.nB k)/\(b.take k).nx=b.nx/\(b.take k).ring.length=b.ring.length/\((b.nB k).length:Int)=max 0 (min k (b.nx-b.rd)):=by
 have a:=h.small;have e:=h.len;have f:=h.nx;have h2:=h.ok.xK;have p:=h.ok.most;obtain⟨q,g,c,j,d,l⟩:=h.str.take h.ok (r:=got.length) h.rd k;obtain⟨m,s,n,o⟩:=b.D6 k;refine⟨⟨h.ok.take k (by rw[c];omega),e,a,j,?_,?_,fun i hi=>h.has i ((o i).1 hi)⟩,m,by rw[n],by rw[d];exact g⟩
 ·rw[c,h.rd,La,d];omega
 have t:got.length+q<=N:=by have:=h.rd;omega
 apply List.ext_getElem?
 intro i;by_cases h1:i<got.length
 ·rw[Mj h1,M2 J7]
  conv=>lhs;rw[h.got]
  rw[M2 h1]
 by_cases u:i<got.length+q
 ·rw[Mh O,l _ O,M2 J7]
  congr 1
  omega
 rw[MZ J7,MZ (by rw[Le,La];omega)]
theorem PI.EE {S:List UInt8}{N:Nat}{b:Bx}{got:List UInt8}(h:PI S N b got):got.length<=N:=by
 have:=h.rd;have:=h.nx;have:=h.ok.xK;omega
section
set_option maxRecDepth 100000
open Go.RowKit Go.Shelf
theorem ko {W:World}{g:Nat}{rg:List UInt8}(h:bR g rg W)(j:Nat)(a:j<rg.length):W.cell? ⟨g,j,none⟩=some (.int .u8 (rg[j].toNat:Int)):=by
 rw[Ln _ _ _ _ _ _ h]
 simp[Lib.byteCells,a]
theorem nt {W:World}{g:Nat}{rg:List UInt8}(h:bR g rg W)(n cap:Nat)(a:rg.length=n):(convert 72 9 (.slice (some ⟨g,0,none⟩) n cap)).run Tryz.prog W= .ok (.string ⟨rg.toArray⟩) W:=by
 subst a;refine run_convert_bytes_back _ _ _ 5 _ _ rg Tryz.underlying72 Tryz.underlying5 Tryz.underlying9 fun j b=> ?_;rw[Ms,MN];exact ko h j b
theorem jh (z:List UInt8)(o:Nat)(cs:List UInt8):splice (Lib.byteCells z) o (Lib.byteCells cs)=Lib.byteCells (fg z o cs):=by
 rw[fF,splice,Lib.byteCells_length,LK]
theorem qW {W:World}{g:Nat}{rg:List UInt8}(h:bR g rg W)(o m:Nat):∀j v,(Lib.byteCells ((rg.drop o).take m))[j]? =some v->W.cell? ((⟨g,o,none⟩:Addr).add j)=some v:=by
 intro j v a;rw[Ms]
 have b:j<((rg.drop o).take m).length:=by
  rcases Nat.lt_or_ge j ((rg.drop o).take m).length with h1 | h1
  ·exact h1
  rw[MZ (by rw[Lib.byteCells_length];exact h1)]at a;cases a
 rw[Le,Lq]at b;rw[ko h (o+j) O];rw[<-a];simp only[Lib.byteCells,List.getElem?_map];rw[M2 O,MW,Na O];rfl
theorem xi (rg:List UInt8)(o q m:Nat)(ho:o<rg.length)(e:q<=rg.length)(hm:m=min (rg.length-o) q) :
  fg (fg (List.replicate q 0) 0 ((rg.drop o).take m)) m (rg.take (q-m))=(rg.drop o).take q++rg.take (q-(rg.length-o)):=by
 have a:((rg.drop o).take m).length=m:=by rw[Le,Lq];omega
 have b:(rg.take (q-m)).length=q-m:=IS
 have c:fg (List.replicate q 0) 0 ((rg.drop o).take m)=(rg.drop o).take m++List.replicate (q-m) 0:=by
  unfold fg;rw[a,Nr,LD,MN,List.drop_replicate]
 have d:((rg.drop o).take m++List.replicate (q-m) 0).drop (m+(q-m))=[]:=List.drop_eq_nil_of_le (by rw[La,a,Mt];omega);rw[c];unfold fg;rw[List.take_left' a,b,d,LM,show q-(rg.length-o)=q-m by omega]
 congr 1
 by_cases h:q<=rg.length-o
 ·rw[show m=q by omega]
 rw[show m=rg.length-o by omega,Mc JN,Mc JN]
set_option maxHeartbeats 4000000 in
theorem xj (B R lb:Nat) (b:Bx) (k:Int) (w:World) (h:ar B R lb b w) (ok:b.Ok) :
  Calls Tryz.prog 91 #[B,k] w fun e w'=>e= .returned (.string ⟨(b.nB k).toArray⟩)/\ar B R lb (b.take k) w'/\lh B w w':=by
 have g:=H h;have b7:=H ok;have k1:=ok.Do;have k2:=ok.small;have k3:=ok.most;have k4:=ok.one;have k5:=ok.xK;have k6:=ok.Ck;clear h ok;by_cases hz:min k (b.nx-b.rd)<=0
 ·have x:=H (show b.nB k=[]/\b.take k=b from⟨by unfold Bx.nB;rw[L7 hz],by unfold Bx.take;rw[L7 hz]⟩);rw[x.1,x.2];by_cases hk:b.nx-b.rd<k
  all_goals
   go_enter Tryz.func91,Tryz.ntmps91
   go_wp2_with fail;refine(lv B R lb b _ g.o b7.o).mono ?_;rintro e w1⟨rfl,rfl⟩;have M:k<=0\/b.nx-b.rd<=0:=O
   (first | (have h1:b.nx-b.rd<=0:=O) | (have h1:k<=0:=O))
   clear hz M;go_wp2;go_ret;exact⟨Z,g.drew,(lh.refl _ _).drew⟩
 obtain⟨q,N⟩:=LY (show 0<=min k (b.nx-b.rd) by omega);have x:=H (show b.nB k=iM b.ring b.rd.toNat q/\b.take k={ b with rd:=b.rd+q }from⟨by unfold Bx.nB;rw[L5 hz,N];try rfl,by unfold Bx.take;rw[L5 hz,N];try rfl⟩);rw[x.1,x.2];obtain⟨r,hr⟩:=LY k1;have y:b.rd=(r:Int):=hr;have a0:1<=q:=O
 have z:q<=b.ring.length:=O
 obtain⟨n,J⟩:∃n,n=b.ring.length:=⟨_,Z⟩;have bd:(r:Int).tmod (n:Int)=((r%n:Nat):Int):=by rw[MI O];rfl
 obtain⟨o,K⟩:∃o,o=r%n:=⟨_,Z⟩;have hJ:o<n:=by rw[K];exact Nc _ O
 rw[<-K]at bd;have fn:=H (show b.rd.toNat%b.ring.length=o by rw[K,y,J];try rfl);obtain⟨i0,hi,P,S,T⟩:=MG mO;have HH:Hid (∀v:Int,v=(q:Int)->True):=fun _ _=>trivial;clear HH;by_cases hk:b.nx-b.rd<k
 all_goals
  (first | (have hv:b.nx-(r:Int)=(q:Int):=O) | (have hv:k=(q:Int):=O))
  have f:=H J;rw[<-J]at k2 k3 k4 k6 z;have a1:n≠o:=O
  have hK:o<=n:=O
  have a2:n≠0:=O
  have kS:¬((q:Int)<=0):=O
  clear hz N hr K J
  go_enter Tryz.func91,Tryz.ntmps91
  go_wp2_with fail;refine(lv B R lb b _ g.o b7.o).mono ?_;rintro e w1⟨rfl,rfl⟩
  go_wp2_with (first | (at_make;refine wpList_make_full _ Z _ _ _ Z w.heap.size 5 i0 _ 1 Tryz.underlying72 hi P S _ _ _ _ q Z Z Z Z (by rw[T];omega) IX (L4 _) ?_))
  intro w2 c A;have ea:=(ME c w.heap.size Z).2
  have C:bR w.heap.size (List.replicate q 0) w2:=by
   refine iV (base:=w.heap.size) (n:=q) (cap:=q) ?_ Z
   have e:(madeCells #[Value.int .u8 0] q).toList=Lib.byteCells (List.replicate q 0):=by
    apply List.ext_getElem
    · simp[madeCells,Lib.byteCells]
    · intro i h1 h2
      simp[madeCells,Lib.byteCells,Nat.mod_one]
   rw[<-e];exact c
  have j:Below w.heap.size w w2:=(L3 _ w).drew.trans (aR A (L4 _) (fun k e=>by cases e));have l:=g.below j;obtain⟨a,cap,⟨U,-⟩,⟨V,f1⟩,-⟩:=l.ats;rw[<-f.o]at U;rw[y]at V;have fo:=H C;have b5:=H j;have dc:=H l;have a5:=g.lt;clear c A C j l;obtain⟨m,hm⟩:∃m,m=min (n-o) q:=⟨_,Z⟩;have k0:m<=q:=O
  have HM:=H hm;have hM:=H (show(Lib.byteCells ((b.ring.drop o).take m)).length=Nat.min (n-o) q by rw[Lib.byteCells_length,Le,Lq,<-f.o];show _=min _ _;omega);have cl:=H (show(Lib.byteCells (b.ring.take (q-m))).length=Nat.min n (q-m) by rw[Lib.byteCells_length,Le,<-f.o];show _=min _ _;omega);have hO:=H (show(Lib.byteCells ((b.ring.drop o).take m)).length=m by rw[Lib.byteCells_length,Le,Lq,<-f.o];omega);clear hm;go_wp2_with fail;refine az (fun w':World=>w'.cell? B=some (.slice (some ⟨R,0,none⟩) n n)/\w'.cell? ⟨B,1,none⟩=some ((r:Int):Y)) (⟨U,V⟩) fun p=>?_;refine aA 0 1 2 3 ?_;refine aA 4 5 6 7 ?_;refine aA 8 9 10 11 ?_;refine aA 12 13 14 15 ?_;refine aZ 16 fun W d=> ?_;refine step_copy_splice Z _ _ _ _ Z 5 Tryz.underlying72 IG (some ⟨w.heap.size,0,none⟩) (some ⟨R,o,none⟩) q q (n-o) (n-o) Z Z w.heap.size 0 (Lib.byteCells (List.replicate q 0)) 5 fo.o (Lib.byteCells ((b.ring.drop o).take m)) hM.o (fun _=>⟨Z,_,Z,qW dc.2.1 o m⟩) (by rw[Lib.byteCells_length,Lib.byteCells_length,Le,Mt];omega) (Lib.byteCells_one _) w.heap.size w b5.drew (L4 _) ?_;intro w3 E s;rw[hO.o];have t:=g.below s;obtain⟨a3,hP,⟨d0,-⟩,⟨d1,g1⟩,-⟩:=t.ats;rw[<-f.o]at d0;rw[y]at d1;refine d.out _ _ (⟨d0,d1⟩) ?_;clear d W p;refine fun p=>aW ?_;refine aQ 17 ?_;refine ay ?_ _;clear p U V f1;have fp:=H (show bR w.heap.size (fg (List.replicate q 0) 0 ((b.ring.drop o).take m)) w3 from by have:=E.out;rw[jh]at this;exact this);have an:=H s;have bI:=H t;clear E s t;go_wp2_with fail;refine az (fun w':World=>w'.cell? B=some (.slice (some ⟨R,0,none⟩) n n)) (d0) fun p=>?_;refine aA 0 1 2 3 ?_;refine aM 4 5 ?_;refine aQ 6 ?_;refine aZ 7 fun W d=> ?_;refine step_copy_splice Z _ _ _ _ Z 5 Tryz.underlying72 IG _ (some ⟨R,0,none⟩) (q-m) (q-m) n n Z Z w.heap.size m (Lib.byteCells (fg (List.replicate q 0) 0 ((b.ring.drop o).take m))) 5 fp.o (Lib.byteCells (b.ring.take (q-m))) cl.o (fun hp=>⟨by rw[cl.o]at hp;have a6:0<min n (q-m):=hp;simp;omega,_,Z,by have:=qW bI.2.1 0 (q-m);rw[MH]at this;exact this⟩) (by rw[Lib.byteCells_length,Lib.byteCells_length,Le,dS _ _ _ (by rw[Le,Mt,Lq];omega),Mt];omega) (Lib.byteCells_one _) w.heap.size w an.drew (L4 _) ?_;intro L F u;have X:=g.below u;obtain⟨a4,hQ,⟨u0,-⟩,⟨u1,k7⟩,-⟩:=X.ats;rw[<-f.o]at u0;rw[y]at u1;refine d.out _ _ (u0) ?_;clear d W p;refine fun p=>aW ?_;refine ay ?_ _;clear p
  have fq:bR w.heap.size (iM b.ring b.rd.toNat q) L:=by
   have:=F.out;rw[jh,xi _ _ _ _ (by rw[<-f.o];exact hJ) (by rw[<-f.o];exact z) (by rw[<-f.o];exact HM.o)]at this;unfold bR iM;rw[fn.o];exact this
  have G:(iM b.ring b.rd.toNat q).length=q:=by
   unfold iM;rw[fn.o,La,Le,Lq,Le,<-f.o];omega
  have I:∀v:Value,(convert 72 9 (.slice (some ⟨w.heap.size,0,none⟩) q q)).run Tryz.prog (L.setCell ⟨B,1,none⟩ v)= .ok (.string ⟨(iM b.ring b.rd.toNat q).toArray⟩) (L.setCell ⟨B,1,none⟩ v):=fun v=>nt (by unfold bR;rw[Ma L ⟨B,1,none⟩ _ v (by show w.heap.size≠B;omega)];exact fq) q q G;have hS:=I ((r:Int)+(q:Int):Int);have er:=H (X.set (b':={ b with rd:=b.rd+q }) 1 (b.rd+q:Int) Z Z (fun _ _=>rfl));have ba:=H ((lh.of_below (B:=B) u).setCell 1 (b.rd+q:Int));rw[y]at er ba;clear F u X I fq G fp an bI fo b5 dc;go_wp2_with fail
  all_goals
   go_ret
   first
   | exact⟨Z,er.o,ba.o⟩
   | (
     have hT:q=m:=IR
     subst hT;exact⟨Z,er.o,ba.o⟩)
end
end Go.Proofs.YtcmncipikdpnbaaGreatDoor
