import Derived.Test.YtcmncipikdpnbaaGreatDoorUb20
import Derived.Test.YtcmncipikdpnbaaGreatDoorUb25
namespace Go.Proofs.YtcmncipikdpnbaaGreatDoor
section
open Go.RowKit Go.Shelf
def bI (b:Bool):Int:=if b=true then 1 else 0
abbrev bH := Fl × Option Addr × Nat
def dF (x:bH):List Value:=.int .i64 (bI x.1.dst):: .int .i64 x.1.due:: .bool x.1.held::aY (x.1.s,x.2.1,x.2.2)
def bL (L:List bH):List Value:=L.flatMap dF
theorem kG (A B:List bH):bL (A++B)=bL A++bL B:=MA ..
theorem kH (L:List bH):(bL L).length=L.length*16:=by
 induction L with
 | nil=>rfl
 | cons x L a=>show(dF x++bL L).length=_;rw[La,a,Lx];show 16+_=_;omega
theorem wL (L:List bH)(i:Nat)(h:i<L.length)(j:Nat)(b:j<16):(bL L)[i*16+j]? =(dF L[i])[j]? :=by
 induction L generalizing i with
 | nil=>simp at h
 | cons x L a =>
  show(dF x++bL L)[i*16+j]? =_
  cases i with
  | zero=>rw[Mj (by show 0*16+j<16;omega)];simp
  | succ i =>
   rw[Mh (by show 16<=_;omega)];rw[show(i+1)*16+j-(dF x).length=i*16+j by show _-16=_;omega]
   simpa using a i IT
theorem oT (L:List bH):∀u∈bL L,u.oneCell'=true:=by
 intro u a;obtain⟨x,_,h⟩:=List.mem_flatMap.1 a
 simp[dF,aY]at h
 rcases h with rfl | rfl | rfl | rfl | rfl | rfl | rfl | rfl | rfl | rfl | rfl | rfl | rfl | rfl | rfl | rfl <;> rfl
theorem tF:(Tryz.prog.info? 55).map (fun i=>(i.zero,i.size,i.bytes))=some (some (.agg #[(0:Int),(0:Int),false,(0:Int),(0:Int),(0:Int),(0:Int),false,false,false,false,(0:Int),(0:Int),false,.slice none 0 0,.string ⟨#[]⟩]),16,128):=by kernel_rfl
def bM (w:World)(base:Nat)(v:Value)(L:List bH):Prop:=w.ownsRow base 55 16 v L.length (bL L)/\∀x∈L,bF w x.2.1 x.1.s.bl
def rN (w:World)(base:Nat)(v:Value)(L:List Fl):Prop:=∃M:List bH,M.map (·.1)=L/\bM w base v M
theorem bM.nil (w:World)(base:Nat):bM w base (.slice none 0 0) []:=⟨Nv _ _ _ _,fun _ h=>by simp at h⟩
theorem rN.nil (w:World)(base:Nat):rN w base (.slice none 0 0) []:=⟨[],Z,bM.nil w base⟩
theorem bM.lt {w:World}{base:Nat}{v:Value}{L:List bH}(h:bM w base v L):∀k,v.ownBlock=some k->base<=k/\k<w.heap.size:=ME h.1
theorem bM.ty {w:World}{base:Nat}{v:Value}{L:List bH}(h:bM w base v L):∀k,v.ownBlock=some k->dX w k 55:=by
 rcases h.1.2 with⟨rfl,f⟩ | ⟨g,a,b,rfl,c,d,r⟩
 ·intro k e;cases e
 intro k e;cases e;exact⟨_,_,d⟩
theorem bM.keep {w w':World}{base:Nat}{v:Value}{L:List bH}(h:bM w base v L)(hs:w.heap.size<=w'.heap.size)(d:aG w w')(e:∀k,v.ownBlock=some k->w'.heap[k]? =w.heap[k]?):bM w' base v L:=by
 refine⟨⟨h.1.1,?_⟩,fun x f=>(h.2 x f).keep hs d⟩
 rcases h.1.2 with i | ⟨g,a,b,rfl,c,j,r⟩
 ·exact .inl i
 exact .inr ⟨g,a,b,Z,c,(e g Z).trans j,r⟩
theorem bM.below {w w':World}{base:Nat}{v:Value}{L:List bH}(h:bM w base v L)(a:Below w.heap.size w w'):bM w' base v L :=
 h.keep a.size (.below a) (fun k e=>a.block k (h.lt k e).2)
theorem bM.mono {w:World}{base a:Nat}{v:Value}{L:List bH}(h:bM w base v L)(e:a<=base):bM w a v L:=by
 refine⟨⟨h.1.1,?_⟩,h.2⟩
 rcases h.1.2 with h | ⟨g,b,c,f,d,r⟩
 ·exact .inl h
 exact .inr ⟨g,b,c,f,L8 e d,r⟩
theorem bM.val {w:World}{base:Nat}{v:Value}{L:List bH}(h:bM w base v L):∃a cap,v= .slice a L.length cap/\L.length<=cap/\∀b,a=some b->b=⟨b.block,0,none⟩:=by
 rcases h.1.2 with⟨rfl,f⟩ | ⟨g,cap,i,j,k,n,c,l,m,d⟩
 ·exact⟨none,0,by rw[f],O,fun _ e=>by cases e⟩
 exact⟨_,cap,j,c,fun _ e=>by cases e;rfl⟩
theorem bM.cells {w:World}{base:Nat}{v:Value}{L:List bH}(h:bM w base v L)(f:0<L.length) :
  ∃g cap,v= .slice (some ⟨g,0,none⟩) L.length cap/\base<=g/\g<w.heap.size/\L.length<=cap/\∀j u,(bL L)[j]? =some u->w.cell? ((⟨g,0,none⟩:Addr).add j)=some u:=by
 rcases h.1.2 with⟨rfl,i⟩ | ⟨g,cap,c,rfl,a,d,b,r⟩
 ·omega
 exact⟨g,cap,Z,a,(L6.1 d).1,b,fun j u e=>N8 h.1 (g:=g) Z j u e⟩
theorem bM.t8 {w w':World}{base:Nat}{v:Value}{L:List bH}(h:bM w base v L)(c:w.grownBy w' v.ownBlock):aG w w':=fun b a =>
 c.block b a.lt (fun e=>(a.ne (h.ty b e.symm) D) Z)
theorem bM.FQ {w w':World}{base:Nat}{v:Value}{L:List bH}(h:bM w base v L)(c:w.grownBy w' v.ownBlock){b:Nat}{t:TypeId}(a:dX w b t)(d:t≠55):w'.heap[b]? =w.heap[b]? :=
 c.block b a.lt (fun e=>(a.ne (h.ty b e.symm) d) Z)
theorem cd (w:World){f:Array Oper}{rest:List Oper}{o:Oper}{a:Act}{Q:Exit->Act->World->Prop}(i:o.guard=none)(s x:Operand)
  (ho:o.op= .call { callee:=.builtin .append,args:= #[s,x],argTypes:= #[36,36] })(base:Nat)
  (v:Value)(L:List bH)(hs:a.eval s=v)(d:bM w base v L)
  (b off c:Nat)(M:List bH)(hx:a.eval x= .slice (some ⟨b,off,none⟩) M.length c)(z:∀j u,(bL M)[j]? =some u->w.cell? ((⟨b,off,none⟩:Addr).add j)=some u)(A:∀y∈M,bF w y.2.1 y.1.s.bl)(I:L.length+M.length<=1000000000000)(e:base<=w.heap.size)
  (h:∀v' w',bM w' base v' (L++M)->w.grownBy w' v.ownBlock->(v'.ownBlock=v.ownBlock\/∃k,v'.ownBlock=some k/\w.heap.size<=k)->wpList Tryz.prog f Q rest (a.put o.dst v') w'):wpList Tryz.prog f Q (o::rest) a w:=by
 obtain⟨B,hi,l,m,n⟩:=MG tF
 obtain⟨v',w',C,h2,g,E⟩:=bg (P:=Tryz.prog) w base 36 o.type 55 B _ 16 128 Tryz.underlying36 hi l m n Z (by decide) v L.length (bL L) d.1 ⟨b,off,none⟩ M.length c (bL M) (kH M)
  z (oT M) (by unfold maxLen;omega) (by omega) e
 refine NC i fun K G=> ?_;unfold Oper.wp execOp;simp only[ho,resolve,invoke,builtin,MU,MT,My,MF,M6,Mp,hs,hx,C];have r:=d.t8 g;refine G _ _ (h v' w' ⟨?_,fun y hy=> ?_⟩ g E)
 ·rw[La,kG];exact h2
 rcases LE.1 hy with hy | hy
 ·exact(d.2 y hy).keep g.size r
 exact(A y hy).keep g.size r
theorem cA {w:World}{f:Array Oper}{o:Oper}{a:Act}{K:Act->World->Prop}{Q:Exit->Act->World->Prop}{E:Prop}(i:o.guard=none)(s x:Operand)
  (ho:o.op= .call { callee:=.builtin .append,args:= #[s,x],argTypes:= #[36,36] })(base:Nat)
  (v:Value)(L:List bH)(hs:a.eval s=v)(d:bM w base v L)(b off c:Nat)(M:List bH)(hx:a.eval x= .slice (some ⟨b,off,none⟩) M.length c)
  (z:∀j u,(bL M)[j]? =some u->w.cell? ((⟨b,off,none⟩:Addr).add j)=some u)(A:∀y∈M,bF w y.2.1 y.1.s.bl)(I:L.length+M.length<=1000000000000)(e:base<=w.heap.size)
  (h:∀v' w',bM w' base v' (L++M)->w.grownBy w' v.ownBlock->(v'.ownBlock=v.ownBlock\/∃k,v'.ownBlock=some k/\w.heap.size<=k)->K (a.put o.dst v') w') :
  if Region.wanted o (yielded f a.tmps)=true then Oper.wp Tryz.prog o a w K Q else E:=by
 have hw:Region.wanted o (yielded f a.tmps)=true:=by simp[Region.wanted,i]
 rw[L7 hw];obtain⟨B,hi,l,m,n⟩:=MG tF
 obtain⟨v',w',C,h2,g,G⟩:=bg (P:=Tryz.prog) w base 36 o.type 55 B _ 16 128 Tryz.underlying36 hi l m n Z (by decide) v L.length (bL L) d.1 ⟨b,off,none⟩ M.length c (bL M) (kH M)
  z (oT M) (by unfold maxLen;omega) (by omega) e
 unfold Oper.wp execOp;simp only[ho,resolve,invoke,builtin,MU,MT,My,MF,M6,Mp,hs,hx,C];have r:=d.t8 g;refine h v' w' ⟨?_,fun y hy=> ?_⟩ g G
 ·rw[La,kG];exact h2
 rcases LE.1 hy with hy | hy
 ·exact(d.2 y hy).keep g.size r
 exact(A y hy).keep g.size r
def aP (B:Nat)(x:bH)(W:World):Prop:=W.heap[B]? =some (.cells (dF x).toArray 55 (0,0))
theorem aP.lt {B:Nat}{x:bH}{W:World}(h:aP B x W):B<W.heap.size:=(L6.1 h).1
theorem aP.ty {B:Nat}{x:bH}{W:World}(h:aP B x W):dX W B 55:=⟨_,_,h⟩
theorem aP.below {B:Nat}{x:bH}{W W':World}(h:aP B x W)(a:Below W.heap.size W W'):aP B x W':=(a.block B h.lt).trans h
theorem aP.cell {B:Nat}{x:bH}{W:World}(h:aP B x W)(i:Nat)(v:Value)(a:(dF x)[i]? =some v):W.cell? ⟨B,i,none⟩=some v:=by
 rw[Ln _ _ _ _ _ _ h]
 simpa using a
theorem aP.set {B:Nat}{x y:bH}{W:World}(h:aP B x W)(i:Nat)(v:Value)(he:(dF x).toArray.setIfInBounds i v=(dF y).toArray):aP B y (W.setCell ⟨B,i,none⟩ v):=by
 unfold aP;rw[LH _ _ _ _ _ _ h,he]
theorem aP.new (w:World)(x:bH):aP w.heap.size x (w.alloc (.cells (dF x).toArray 55)):=Lp _ _
theorem gU {w:World}{b:Nat}{t:TypeId}{a:Nat×Nat}{M:List bH}(h:w.heap[b]? =some (.cells (bL M).toArray t a)):∀j u,(bL M)[j]? =some u->w.cell? ((⟨b,0,none⟩:Addr).add j)=some u:=by
 intro j u c;rw[Ms,MN,Ln _ _ _ _ _ _ h]
 simpa using c
end
section
open Go.RowKit Go.Shelf
structure Ft where
 B:Nat
 fa:Fp
 fb:Fp
 vW:Value
 vL:Value
 aF:Option Addr
 cF:Nat
def Ft.f (t:Ft)(i:Bool):Fp:=match i with | false=>t.fa | true=>t.fb
def Ft.Fw (t:Ft)(i:Bool)(f:Fp):Ft:=match i with | false=>{ t with fa:=f } | true=>{ t with fb:=f }
def Fp.has (f:Fp)(k:Nat):Prop:=k=f.C\/k=f.S\/k=f.T\/k=f.G\/k=f.X\/k=f.R
def Ft.D (t:Ft)(k:Nat):Prop:=k=t.B\/t.fa.has k\/t.fb.has k\/t.vW.ownBlock=some k\/t.vL.ownBlock=some k
def dm (t:Ft)(p:Pr):Array Value:= #[
 .pointer (some ⟨t.fa.C,0,none⟩),.string ⟨p.a.all.toArray⟩,p.a.sent,.string ⟨p.a.got.toArray⟩,p.a.fin,p.a.closed,
 .pointer (some ⟨t.fb.C,0,none⟩),.string ⟨p.b.all.toArray⟩,p.b.sent,.string ⟨p.b.got.toArray⟩,p.b.fin,p.b.closed,
 t.vW,p.now,.slice t.aF p.kq.length t.cF,(p.many:Int),t.vL]
structure A3 (N:Nat)(a:Option Addr)(l:List Int)(w:World):Prop where
 small:l.length<=1000
 zu:∀x∈l,aI x
 cells:0<l.length->∃b o,a=some ⟨b,o,none⟩/\b<N/\∀i,(hi:i<l.length)->w.cell? ⟨b,o+i,none⟩=some (l[i]:Y)
def we (w:World)(b:Nat):Prop:=∃u,dX w b u/\u≠38/\u≠55/\u≠85/\u≠135/\u≠142/\u≠132/\u≠120/\u≠5/\u≠111
structure B8 (N:Nat)(a:Option Addr)(l:List Int)(w:World):Prop where
 small:l.length<=1000
 zu:∀x∈l,aI x
 cells:0<l.length->∃b o,a=some ⟨b,o,none⟩/\(b<N\/we w b)/\∀i,(hi:i<l.length)->w.cell? ⟨b,o+i,none⟩=some (l[i]:Y)
theorem A3.x {N:Nat}{a:Option Addr}{l:List Int}{w:World}(h:A3 N a l w):B8 N a l w:=⟨h.small,h.zu,fun c=>let ⟨b,o,e,hb,hc⟩:=h.cells c;⟨b,o,e,.inl hb,hc⟩⟩
structure tT (N:Nat)(t:Ft)(p:Pr)(w:World):Prop where
 blk:w.heap[t.B]? =some (.cells (dm t p) 38 (0,0))
 a:kf t.fa p.a.c w
 b:kf t.fb p.b.c w
 Ef:kf.Hk t.fa t.fb
 wire:rN w N t.vW p.wire
 log:rN w N t.vL p.log
 ne:∀k,t.vW.ownBlock=some k->t.vL.ownBlock≠some k
 G0:B8 N t.aF p.kq w
 lo:∀k,t.D k->N<=k
 top:eQ<=N
structure Dh (D0:Nat->Prop)(w w':World):Prop where
 os:w'.os=w.os
 tape:w'.tape=w.tape
 output:w'.output=w.output
 size:w.heap.size<=w'.heap.size
 block:∀k,k<w.heap.size->¬D0 k->w'.heap[k]? =w.heap[k]?
 sp:aG w w'
theorem aG.trans {a b c:World}(h:aG a b)(k:aG b c):aG a c:=fun x d=>(k x (d.of (h x d))).trans (h x d)
theorem Dh.refl (D0:Nat->Prop)(w:World):Dh D0 w w:=⟨Z,Z,Z,L4 _,fun _ _ _=>rfl,.refl w⟩
theorem Dh.trans {D0 E:Nat->Prop}{a b c:World}(h:Dh D0 a b)(k:Dh E b c)(f:∀x,E x->D0 x\/a.heap.size<=x):Dh D0 a c :=
 ⟨k.os.trans h.os,k.tape.trans h.tape,k.output.trans h.output,L8 h.size k.size,fun x d e=>(k.block x (Lb d h.size) (fun he=>by rcases f x he with h1 | h1 <;> first | exact e h1 | omega)).trans (h.block x d e),h.sp.trans k.sp⟩
theorem Dh.below {D0:Nat->Prop}{w w':World}{N:Nat}(h:Dh D0 w w')(c:N<=w.heap.size)(a:∀k,D0 k->N<=k):Below N w w' :=
 ⟨h.os,h.tape,h.output,h.size,fun k d=>h.block k O (fun b=>by have:=a k b;omega)⟩
structure pE (N:Nat)(t:Ft)(w:World)(t':Ft)(p':Pr)(w':World):Prop where
 pa:tT N t' p' w'
 fr:Dh t.D w w'
 sub:∀k,t'.D k->t.D k\/w.heap.size<=k
 eB:t'.B=t.B
 eC:t'.fa.C=t.fa.C/\t'.fb.C=t.fb.C/\t'.aF=t.aF
theorem pE.start {N:Nat}{t:Ft}{p:Pr}{w:World}(h:tT N t p w):pE N t w t p w:=⟨h,.refl _ _,fun _ h=>.inl h,Z,⟨Z,Z,Z⟩⟩
theorem pE.trans {N:Nat}{t u v:Ft}{p q:Pr}{a b c:World}(h:pE N t a u p b)(k:pE N u b v q c):pE N t a v q c :=
 ⟨k.pa,h.fr.trans k.fr h.sub,fun x d=>by
  rcases k.sub x d with h1 | h1
  ·exact h.sub x h1
  ·exact .inr (L8 h.fr.size h1),k.eB.trans h.eB,⟨k.eC.1.trans h.eC.1,k.eC.2.1.trans h.eC.2.1,k.eC.2.2.trans h.eC.2.2⟩⟩
def B6 (N:Nat)(t:Ft)(w:World)(p':Pr)(w':World):Prop:=∃a,pE N t w a p' w'
namespace tT
variable {N : Nat} {t : Ft} {p : Pr} {w w' : World}
theorem Gh (h:tT N t p w):dX w t.B 38:=⟨_,_,h.blk⟩
theorem cell (h:tT N t p w)(i:Nat)(v:Value)(a:(dm t p)[i]? =some v):w.cell? ⟨t.B,i,none⟩=some v:=by rw[Ln _ _ _ _ _ _ h.blk];exact a
theorem free (h:tT N t p w)(i:Nat):w.frozen? ⟨t.B,i,none⟩=false:=LT _ _ _ _ _ h.blk
theorem lt (h:tT N t p w):t.B<w.heap.size:=h.Gh.lt
theorem Ha (h:tT N t p w):N<=t.B:=h.lo _ (.inl Z)
theorem big (h:tT N t p w):N<=w.heap.size:=L8 h.Ha (Nat.le_of_lt h.lt)
theorem Hb (h:tT N t p w):∀k,t.vW.ownBlock=some k->k<w.heap.size/\dX w k 55:=by
 obtain⟨M,-,a⟩:=h.wire;exact fun k e=>⟨(a.lt k e).2,a.ty k e⟩
theorem Hc (h:tT N t p w):∀k,t.vL.ownBlock=some k->k<w.heap.size/\dX w k 55:=by
 obtain⟨M,-,a⟩:=h.log;exact fun k e=>⟨(a.lt k e).2,a.ty k e⟩
theorem Gz (h:tT N t p w)(k:Nat)(c:t.D k):k<w.heap.size/\¬dX w k 149:=by
 rcases c with rfl | c | c | c | c
 ·exact⟨h.lt,fun e=>e.ne h.Gh D Z⟩
 ·rcases c with rfl | rfl | rfl | rfl | rfl | rfl
  ·exact⟨h.a.zs.lt,fun e=>e.ne h.a.zs D Z⟩
  ·exact⟨h.a.BU.lt,fun e=>e.ne h.a.BU D Z⟩
  ·exact⟨h.a.BW.lt,fun e=>e.ne h.a.BW D Z⟩
  ·exact⟨h.a.BX.lt,fun e=>e.ne h.a.BX D Z⟩
  ·exact⟨h.a.BY.lt,fun e=>e.ne h.a.BY D Z⟩
  exact⟨h.a.Cd.lt,fun e=>e.ne h.a.Cd D Z⟩
 ·rcases c with rfl | rfl | rfl | rfl | rfl | rfl
  ·exact⟨h.b.zs.lt,fun e=>e.ne h.b.zs D Z⟩
  ·exact⟨h.b.BU.lt,fun e=>e.ne h.b.BU D Z⟩
  ·exact⟨h.b.BW.lt,fun e=>e.ne h.b.BW D Z⟩
  ·exact⟨h.b.BX.lt,fun e=>e.ne h.b.BX D Z⟩
  ·exact⟨h.b.BY.lt,fun e=>e.ne h.b.BY D Z⟩
  exact⟨h.b.Cd.lt,fun e=>e.ne h.b.Cd D Z⟩
 ·exact⟨(h.Hb k c).1,fun e=>e.ne (h.Hb k c).2 D Z⟩
 exact⟨(h.Hc k c).1,fun e=>e.ne (h.Hc k c).2 D Z⟩
theorem Db {a:Option Addr}{l:List Int}(h:A3 N a l w)(d:∀k,k<N->w'.heap[k]? =w.heap[k]?):A3 N a l w':=by
 refine⟨h.small,h.zu,fun f=> ?_⟩;obtain⟨b,o,e,c,g⟩:=h.cells f;exact⟨b,o,e,c,fun i hi=>(Lg (a:=⟨b,_,none⟩) (d b c)).trans (g i hi)⟩
theorem vp {a:Option Addr}{l:List Int}(h:B8 N a l w)(g:∀k,k<N->w'.heap[k]? =w.heap[k]?)(j:∀k,we w k->w'.heap[k]? =w.heap[k]?):B8 N a l w':=by
 refine⟨h.small,h.zu,fun m=> ?_⟩;obtain⟨b,o,e,c,n⟩:=h.cells m;have d:w'.heap[b]? =w.heap[b]? :=c.elim (g b) (j b);refine⟨b,o,e,c.imp id (fun⟨u,⟨v,f,h1⟩,h2⟩=>⟨u,⟨v,f,d.trans h1⟩,h2⟩),fun i hi=>(Lg (a:=⟨b,_,none⟩) d).trans (n i hi)⟩
theorem keep (h:tT N t p w)(m:w'.os=w.os)(n:w'.tape=w.tape)(o:w'.output=w.output)(hs:w.heap.size<=w'.heap.size)(j:∀k,k<N->w'.heap[k]? =w.heap[k]?)(g:∀k,t.D k->w'.heap[k]? =w.heap[k]?)(c:aG w w')(r:∀k,we w k->w'.heap[k]? =w.heap[k]?):tT N t p w':=by
 have l:Below eQ w w':=⟨m,n,o,hs,fun k c=>j k (Lb c h.top)⟩;have d:∀k,t.fa.has k->w'.heap[k]? =w.heap[k]? :=fun k c=>g k (.inr (.inl c));have f:∀k,t.fb.has k->w'.heap[k]? =w.heap[k]? :=fun k c=>g k (.inr (.inr (.inl c)));refine⟨(g _ (.inl Z)).trans h.blk,?_,?_,h.Ef,?_,?_,h.ne,vp h.G0 j r,h.lo,h.top⟩
 ·exact h.a.keep l hs c (d _ (.inl Z)) (d _ (.inr (.inl Z))) (d _ (.inr (.inr (.inl Z)))) (d _ (.inr (.inr (.inr (.inl Z))))) (d _ (.inr (.inr (.inr (.inr (.inl Z)))))) (d _ (.inr (.inr (.inr (.inr (.inr Z))))))
 ·exact h.b.keep l hs c (f _ (.inl Z)) (f _ (.inr (.inl Z))) (f _ (.inr (.inr (.inl Z)))) (f _ (.inr (.inr (.inr (.inl Z))))) (f _ (.inr (.inr (.inr (.inr (.inl Z)))))) (f _ (.inr (.inr (.inr (.inr (.inr Z))))))
 ·obtain⟨M,e,i⟩:=h.wire;exact⟨M,e,i.keep hs c (fun k c=>g k (.inr (.inr (.inr (.inl c)))))⟩
 obtain⟨M,e,i⟩:=h.log;exact⟨M,e,i.keep hs c (fun k c=>g k (.inr (.inr (.inr (.inr c)))))⟩
theorem oz (h:tT N t p w)(a:Below w.heap.size w w'):pE N t w t p w' :=
 ⟨h.keep a.os a.tape a.output a.size (fun k b=>a.block k (Lb b h.big)) (fun k b=>a.block k (h.Gz k b).1) (.below a) (fun k b=>let ⟨_,hu,_⟩:=b;a.block k hu.lt),⟨a.os,a.tape,a.output,a.size,fun k b _=>a.block k b,.below a⟩,fun _ h=>.inl h,Z,⟨Z,Z,Z⟩⟩
theorem alloc (h:tT N t p w)(o:Obj):pE N t w t p (w.alloc o):=h.oz ((L3 _ w).alloc (L4 _) o)
theorem drew (h:tT N t p w):pE N t w t p w.drew:=h.oz (L3 _ w).drew
theorem apart {D0:Nat->Prop}(h:tT N t p w)(hf:Dh D0 w w')(b:∀k,D0 k->N<=k/\¬t.D k)(c:∀k,we w k->¬D0 k):tT N t p w' :=
 h.keep hf.os hf.tape hf.output hf.size (fun k a=>hf.block k (Lb a h.big) (fun e=>by have:=(b k e).1;omega)) (fun k a=>hf.block k (h.Gz k a).1 (fun e=>(b k e).2 a)) hf.sp (fun k a=>let ⟨_,hu,_⟩:=a;hf.block k hu.lt (c k a))
theorem set (h:tT N t p w)(i:Nat)(v:Value)(q:Pr)(he:(dm t p).setIfInBounds i v=dm t q)(m:q.a.c=p.a.c)(n:q.b.c=p.b.c)(o:q.wire=p.wire)(r:q.log=p.log)(s:q.kq=p.kq):pE N t w t q (w.setCell ⟨t.B,i,none⟩ v):=by
 have d:lh t.B w (w.setCell ⟨t.B,i,none⟩ v):=(lh.refl _ _).setCell i v;have j:=h.Gh;have l:eQ<=t.B:=L8 h.top h.Ha;have f:aG w (w.setCell ⟨t.B,i,none⟩ v):=.BS d j D;refine⟨⟨by rw[LH _ _ _ _ _ _ h.blk,he],?_,?_,h.Ef,?_,?_,h.ne,?_,h.lo,h.top⟩,⟨d.os,d.tape,d.output,d.size,fun k f u=>d.block k f (fun e=>u (.inl e)),f⟩,fun _ h=>.inl h,Z,⟨Z,Z,Z⟩⟩
 ·rw[m];exact h.a.beside j d l D D D D D D D
 ·rw[n];exact h.b.beside j d l D D D D D D D
 ·rw[o];obtain⟨M,e,g⟩:=h.wire;exact⟨M,e,g.keep d.size f (fun k e=>d.block k (g.lt k e).2 ((g.ty k e).ne j D))⟩
 ·rw[r];obtain⟨M,e,g⟩:=h.log;exact⟨M,e,g.keep d.size f (fun k e=>d.block k (g.lt k e).2 ((g.ty k e).ne j D))⟩
 rw[s];exact vp h.G0 (fun k f=>d.block k (Lb f h.big) (by have:=h.Ha;omega)) (fun k f=>let ⟨_,hu,h1,_⟩:=f;d.block k hu.lt (hu.ne j h1))
theorem G2 (h:tT N t p w)(i:Bool)(g:Nat)(c:Cn)(U:kf { t.f i with G:=g } c w')(j:nA (t.f i) w w')(l:g=(t.f i).G\/w.heap.size<=g):pE N t w (t.Fw i { t.f i with G:=g }) (p.ro i c) w':=by
 have n:=h.big
 have o:∀k,¬(t.f i).has k->k<w.heap.size->w'.heap[k]? =w.heap[k]? :=by
  intro k d E;unfold Fp.has at d;exact j.block k E (by omega) (by omega) (by omega) (by omega) (by omega) (by omega)
 have V:∀k,(t.f i).has k->t.D k:=by
  intro k d
  cases i
  ·exact .inr (.inl d)
  exact .inr (.inr (.inl d))
 have hN:∀k,k<N->w'.heap[k]? =w.heap[k]? :=fun k d=>o k (fun e=>by have:=h.lo k (V k e);omega) (Lb d n)
 have an:kf (t.f i) (p.sd i).c w:=by
  cases i
  ·exact h.a
  exact h.b
 have s:aG w w':=an.t8 j
 have m:∀k u,dX w k u->u≠85->u≠135->u≠142->u≠132->u≠120->u≠5->w'.heap[k]? =w.heap[k]? :=fun k u d h1 h2 I J K P =>
  j.block k d.lt (d.ne an.zs h1) (d.ne an.BU h2) (d.ne an.BW I) (d.ne an.BX J) (d.ne an.BY K) (d.ne an.Cd P)
 have hB:=m _ _ h.Gh (by decide) (by decide) (by decide) (by decide) (by decide) (by decide);have hT:∀k,we w k->w'.heap[k]? =w.heap[k]? :=fun k ⟨u,hu,_,_,I,J,K,P,h7,h8,_⟩=>m k u hu I J K P h7 h8
 have hW:rN w' N t.vW p.wire:=by
  obtain⟨M,e,z⟩:=h.wire;exact⟨M,e,z.keep j.size s (fun k e=>m _ _ (z.ty k e) (by decide) (by decide) (by decide) (by decide) (by decide) (by decide))⟩
 have hL:rN w' N t.vL p.log:=by
  obtain⟨M,e,z⟩:=h.log;exact⟨M,e,z.keep j.size s (fun k e=>m _ _ (z.ty k e) (by decide) (by decide) (by decide) (by decide) (by decide) (by decide))⟩
 have cM:Dh t.D w w':=⟨j.os,j.tape,j.output,j.size,fun k d hd=>o k (fun e=>hd (V k e)) d,s⟩
 have r:∀k,(t.Fw i { t.f i with G:=g }).D k->t.D k\/w.heap.size<=k:=by
  intro k d
  have A:∀f:Fp,(g=f.G\/w.heap.size<=g)->({ f with G:=g }:Fp).has k->f.has k\/w.heap.size<=k:=by
   intro f l d;unfold Fp.has at d|-;dsimp only at d;omega
  cases i
  ·rcases d with d | d | d | d | d
   ·exact .inl (.inl d)
   ·exact(A _ l d).imp (fun h=>.inr (.inl h)) id
   ·exact .inl (.inr (.inr (.inl d)))
   ·exact .inl (.inr (.inr (.inr (.inl d))))
   exact .inl (.inr (.inr (.inr (.inr d))))
  rcases d with d | d | d | d | d
  ·exact .inl (.inl d)
  ·exact .inl (.inr (.inl d))
  ·exact(A _ l d).imp (fun h=>.inr (.inr (.inl h))) id
  ·exact .inl (.inr (.inr (.inr (.inl d))))
  exact .inl (.inr (.inr (.inr (.inr d))))
 have B:∀k,(t.Fw i { t.f i with G:=g }).D k->N<=k:=fun k d=>by
  rcases r k d with h1 | h1
  ·exact h.lo k h1
  exact L8 n h1
 refine⟨?_,cM,r,by cases i <;> rfl,by cases i <;> exact⟨Z,Z,Z⟩⟩
 cases i
 ·refine⟨hB.trans h.blk,U,h.b.across h.a ⟨h.Ef.C.symm,h.Ef.S.symm,h.Ef.T.symm,h.Ef.G.symm,h.Ef.X.symm,h.Ef.R.symm⟩ j,⟨h.Ef.C,h.Ef.S,h.Ef.T,?_,h.Ef.X,h.Ef.R⟩,hW,hL,h.ne,vp h.G0 hN hT,B,h.top⟩;have:=h.b.BX.lt
  rcases l with l | l
  ·exact fun e=>h.Ef.G (l.symm.trans e)
  exact fun e=>by have:g=t.fb.G:=e;omega
 refine⟨hB.trans h.blk,h.a.across h.b h.Ef j,U,⟨h.Ef.C,h.Ef.S,h.Ef.T,?_,h.Ef.X,h.Ef.R⟩,hW,hL,h.ne,vp h.G0 hN hT,B,h.top⟩;have:=h.a.BX.lt
 rcases l with l | l
 ·exact fun e=>h.Ef.G (e.trans l)
 exact fun e=>by have:t.fa.G=g:=e;omega
theorem GI (h:tT N t p w)(v:Value)(L:List bH)(n:w.grownBy w' t.vL.ownBlock)(z:bM w' N v L)(o:∀k,v.ownBlock=some k->t.vL.ownBlock=some k\/w.heap.size<=k):pE N t w { t with vL:=v } { p with log:=L.map (·.1) } (w'.setCell ⟨t.B,16,none⟩ v):=by
 have r:=h.Gh;have j:=h.big;obtain⟨T,U,G⟩:=h.log;have A:w'.heap[t.B]? =w.heap[t.B]? :=G.FQ n r D;have l:lh t.B w' (w'.setCell ⟨t.B,16,none⟩ v):=(lh.refl _ _).setCell 16 v;have f:w.heap.size<=(w'.setCell ⟨t.B,16,none⟩ v).heap.size:=L8 n.size l.size;have g:∀k,k<w.heap.size->k≠t.B->t.vL.ownBlock≠some k->(w'.setCell ⟨t.B,16,none⟩ v).heap[k]? =w.heap[k]? :=fun k h1 h2 K=>(l.block k (Lb h1 n.size) h2).trans (n.block k h1 (fun e=>K e.symm));have C:∀k,t.vL.ownBlock=some k->N<=k:=fun k e=>h.lo k (.inr (.inr (.inr (.inr e))));have I:∀k,k<N->(w'.setCell ⟨t.B,16,none⟩ v).heap[k]? =w.heap[k]? :=fun k d=>g k (Lb d j) (by have:=h.Ha;omega) (fun e=>by have:=C k e;omega);have c:∀k u,dX w k u->u≠38->u≠55->(w'.setCell ⟨t.B,16,none⟩ v).heap[k]? =w.heap[k]? :=fun k u d h1 h2=>g k d.lt (d.ne r h1) (fun e=>d.ne (G.ty k e) h2 Z);have i:aG w (w'.setCell ⟨t.B,16,none⟩ v):=fun b o=>c b _ o D D;have s:Below eQ w (w'.setCell ⟨t.B,16,none⟩ v):=⟨l.os.trans n.os,l.tape.trans n.tape,l.output.trans n.output,f,fun k d=>I k (Lb d h.top)⟩
 have m:∀k,Ft.D { t with vL:=v } k->t.D k\/w.heap.size<=k:=by
  intro k d
  rcases d with d | d | d | d | d
  ·exact .inl (.inl d)
  ·exact .inl (.inr (.inl d))
  ·exact .inl (.inr (.inr (.inl d)))
  ·exact .inl (.inr (.inr (.inr (.inl d))))
  exact(o k d).imp (fun e=>.inr (.inr (.inr (.inr e)))) id
 have P:∀k,we w k->_:=fun k ⟨u,hu,h1,h2,_⟩=>c k u hu h1 h2;refine⟨⟨?_,?_,?_,h.Ef,?_,?_,?_,vp h.G0 I P,fun k d=> ?_,h.top⟩,⟨s.os,s.tape,s.output,f,fun k d J=>g k d (fun e=>J (.inl e)) (fun e=>J (.inr (.inr (.inr (.inr e))))),i⟩,m,Z,⟨Z,Z,Z⟩⟩
 ·rw[LH _ _ _ _ _ _ (A.trans h.blk)];rfl
 ·exact h.a.keep s f i (c _ _ h.a.zs D D) (c _ _ h.a.BU D D) (c _ _ h.a.BW D D) (c _ _ h.a.BX D D) (c _ _ h.a.BY D D) (c _ _ h.a.Cd D D)
 ·exact h.b.keep s f i (c _ _ h.b.zs D D) (c _ _ h.b.BU D D) (c _ _ h.b.BW D D) (c _ _ h.b.BX D D) (c _ _ h.b.BY D D) (c _ _ h.b.Cd D D)
 ·obtain⟨M,e,E⟩:=h.wire;exact⟨M,e,E.keep f i (fun k e=>g k (E.lt k e).2 ((E.ty k e).ne r D) (h.ne k e))⟩
 ·exact⟨L,Z,z.keep l.size (fun b o=>l.block b o.lt (o.ne (r.of A) D)) (fun k e=>l.block k (z.lt k e).2 ((z.ty k e).ne (r.of A) D))⟩
 ·intro k e S
  rcases o k S with h1 | h1
  ·exact h.ne k e h1
  have:=(h.Hb k e).1;omega
 rcases m k d with h1 | h1
 ·exact h.lo k h1
 exact L8 j h1
theorem setW (h:tT N t p w)(v:Value)(L:List bH)(n:w.grownBy w' t.vW.ownBlock)(A:bM w' N v L)(o:∀k,v.ownBlock=some k->t.vW.ownBlock=some k\/w.heap.size<=k):pE N t w { t with vW:=v } { p with wire:=L.map (·.1) } (w'.setCell ⟨t.B,12,none⟩ v):=by
 have r:=h.Gh;have j:=h.big;obtain⟨T,U,I⟩:=h.wire;have C:w'.heap[t.B]? =w.heap[t.B]? :=I.FQ n r D;have l:lh t.B w' (w'.setCell ⟨t.B,12,none⟩ v):=(lh.refl _ _).setCell 12 v;have f:w.heap.size<=(w'.setCell ⟨t.B,12,none⟩ v).heap.size:=L8 n.size l.size;have g:∀k,k<w.heap.size->k≠t.B->t.vW.ownBlock≠some k->(w'.setCell ⟨t.B,12,none⟩ v).heap[k]? =w.heap[k]? :=fun k h1 h2 P=>(l.block k (Lb h1 n.size) h2).trans (n.block k h1 (fun e=>P e.symm));have E:∀k,t.vW.ownBlock=some k->N<=k:=fun k e=>h.lo k (.inr (.inr (.inr (.inl e))));have J:∀k,k<N->(w'.setCell ⟨t.B,12,none⟩ v).heap[k]? =w.heap[k]? :=fun k d=>g k (Lb d j) (by have:=h.Ha;omega) (fun e=>by have:=E k e;omega);have c:∀k u,dX w k u->u≠38->u≠55->(w'.setCell ⟨t.B,12,none⟩ v).heap[k]? =w.heap[k]? :=fun k u d h1 h2=>g k d.lt (d.ne r h1) (fun e=>d.ne (I.ty k e) h2 Z);have i:aG w (w'.setCell ⟨t.B,12,none⟩ v):=fun b o=>c b _ o D D;have s:Below eQ w (w'.setCell ⟨t.B,12,none⟩ v):=⟨l.os.trans n.os,l.tape.trans n.tape,l.output.trans n.output,f,fun k d=>J k (Lb d h.top)⟩
 have m:∀k,Ft.D { t with vW:=v } k->t.D k\/w.heap.size<=k:=by
  intro k d
  rcases d with d | d | d | d | d
  ·exact .inl (.inl d)
  ·exact .inl (.inr (.inl d))
  ·exact .inl (.inr (.inr (.inl d)))
  ·exact(o k d).imp (fun e=>.inr (.inr (.inr (.inl e)))) id
  exact .inl (.inr (.inr (.inr (.inr d))))
 have S:∀k,we w k->_:=fun k ⟨u,hu,h1,h2,_⟩=>c k u hu h1 h2;refine⟨⟨?_,?_,?_,h.Ef,?_,?_,?_,vp h.G0 J S,fun k d=> ?_,h.top⟩,⟨s.os,s.tape,s.output,f,fun k d K=>g k d (fun e=>K (.inl e)) (fun e=>K (.inr (.inr (.inr (.inl e))))),i⟩,m,Z,⟨Z,Z,Z⟩⟩
 ·rw[LH _ _ _ _ _ _ (C.trans h.blk)];rfl
 ·exact h.a.keep s f i (c _ _ h.a.zs D D) (c _ _ h.a.BU D D) (c _ _ h.a.BW D D) (c _ _ h.a.BX D D) (c _ _ h.a.BY D D) (c _ _ h.a.Cd D D)
 ·exact h.b.keep s f i (c _ _ h.b.zs D D) (c _ _ h.b.BU D D) (c _ _ h.b.BW D D) (c _ _ h.b.BX D D) (c _ _ h.b.BY D D) (c _ _ h.b.Cd D D)
 ·exact⟨L,Z,A.keep l.size (fun b o=>l.block b o.lt (o.ne (r.of C) D)) (fun k e=>l.block k (A.lt k e).2 ((A.ty k e).ne (r.of C) D))⟩
 ·obtain⟨M,e,G⟩:=h.log;exact⟨M,e,G.keep f i (fun k e=>g k (G.lt k e).2 ((G.ty k e).ne r D) (fun z=>h.ne k z e))⟩
 ·intro k e z
  rcases o k e with h1 | h1
  ·exact h.ne k h1 z
  have:=(h.Hc k z).1;omega
 rcases m k d with h1 | h1
 ·exact h.lo k h1
 exact L8 j h1
end tT
end
section
open Go.RowKit Go.Shelf
namespace pE
variable {N : Nat} {t t1 : Ft} {q q' : Pr} {w W W' : World}
theorem cell (h:pE N t w t1 q W)(i:Nat)(v:Value)(a:(dm t1 q)[i]? =some v):W.cell? ⟨t.B,i,none⟩=some v:=by rw[<-h.eB];exact h.pa.cell i v a
theorem free (h:pE N t w t1 q W)(i:Nat):W.frozen? ⟨t.B,i,none⟩=false:=by rw[<-h.eB];exact h.pa.free i
theorem oz (h:pE N t w t1 q W)(a:Below W.heap.size W W'):pE N t w t1 q W':=h.trans (h.pa.oz a)
theorem set (h:pE N t w t1 q W)(i:Nat)(v:Value)(q':Pr)(he:(dm t1 q).setIfInBounds i v=dm t1 q')(d:q'.a.c=q.a.c)(e:q'.b.c=q.b.c)(f:q'.wire=q.wire)(g:q'.log=q.log)(j:q'.kq=q.kq):pE N t w t1 q' (W.setCell ⟨t.B,i,none⟩ v):=by
 rw[<-h.eB];exact h.trans (h.pa.set i v q' he d e f g j)
theorem GI (h:pE N t w t1 q W)(v:Value)(L:List bH)(a:W.grownBy W' t1.vL.ownBlock)(b:bM W' N v L)(c:∀k,v.ownBlock=some k->t1.vL.ownBlock=some k\/W.heap.size<=k):pE N t w { t1 with vL:=v } { q with log:=L.map (·.1) } (W'.setCell ⟨t.B,16,none⟩ v):=by
 rw[<-h.eB];exact h.trans (h.pa.GI v L a b c)
theorem setW (h:pE N t w t1 q W)(v:Value)(L:List bH)(a:W.grownBy W' t1.vW.ownBlock)(b:bM W' N v L)(c:∀k,v.ownBlock=some k->t1.vW.ownBlock=some k\/W.heap.size<=k):pE N t w { t1 with vW:=v } { q with wire:=L.map (·.1) } (W'.setCell ⟨t.B,12,none⟩ v):=by
 rw[<-h.eB];exact h.trans (h.pa.setW v L a b c)
theorem size (h:pE N t w t1 q W):w.heap.size<=W.heap.size:=h.fr.size
end pE
theorem aP.free {B:Nat}{x:bH}{W:World}(h:aP B x W)(i:Nat):W.frozen? ⟨B,i,none⟩=false:=LT _ _ _ _ _ h
structure Dr (N:Nat)(t:Ft)(w:World)(F:Nat)(x:bH)(t1:Ft)(q:Pr)(W:World):Prop where
 st:pE N t w t1 q W
 row:aP F x W
 nd:¬t1.D F
 bl:bF W x.2.1 x.1.s.bl
 lo:w.heap.size<=F
 hN:N<=F
namespace Dr
variable {N F : Nat} {x y : bH} {t t1 t2 : Ft} {q q' : Pr} {w W W' : World}
theorem oz (h:Dr N t w F x t1 q W)(a:Below W.heap.size W W'):Dr N t w F x t1 q W':=⟨h.st.oz a,h.row.below a,h.nd,h.bl.keep a.size (.below a),h.lo,h.hN⟩
theorem new (h:pE N t w t1 q W)(b:bF W x.2.1 x.1.s.bl):Dr N t w W.heap.size x t1 q (W.alloc (.cells (dF x).toArray 55)):=by
 have a:=(L3 W.heap.size W).alloc (L4 _) (.cells (dF x).toArray 55);exact⟨h.oz a,aP.new _ _,fun e=>MD _ (h.pa.Gz _ e).1,b.keep a.size (.below a),h.size,h.pa.big⟩
theorem step (h:Dr N t w F x t1 q W)(k:pE N t1 W t2 q' W'):Dr N t w F x t2 q' W' :=
 ⟨h.st.trans k,(k.fr.block F h.row.lt h.nd).trans h.row,fun e=>by
  rcases k.sub F e with h1 | h1
  ·exact h.nd h1
  ·exact MD _ (Lb h.row.lt h1),h.bl.keep k.fr.size k.fr.sp,h.lo,h.hN⟩
theorem set (h:Dr N t w F x t1 q W)(i:Nat)(v:Value)(q':Pr)(he:(dm t1 q).setIfInBounds i v=dm t1 q')(d:q'.a.c=q.a.c)(e:q'.b.c=q.b.c)(f:q'.wire=q.wire)(g:q'.log=q.log)(j:q'.kq=q.kq):Dr N t w F x t1 q' (W.setCell ⟨t.B,i,none⟩ v):=by
 rw[<-h.st.eB];exact h.step (h.st.pa.set i v q' he d e f g j)
theorem log (h:Dr N t w F x t1 q W)(v:Value)(L:List bH)(a:W.grownBy W' t1.vL.ownBlock)(b:bM W' N v L)(c:∀k,v.ownBlock=some k->t1.vL.ownBlock=some k\/W.heap.size<=k):Dr N t w F x { t1 with vL:=v } { q with log:=L.map (·.1) } (W'.setCell ⟨t.B,16,none⟩ v):=by
 rw[<-h.st.eB];exact h.step (h.st.pa.GI v L a b c)
theorem wire (h:Dr N t w F x t1 q W)(v:Value)(L:List bH)(a:W.grownBy W' t1.vW.ownBlock)(b:bM W' N v L)(c:∀k,v.ownBlock=some k->t1.vW.ownBlock=some k\/W.heap.size<=k):Dr N t w F x { t1 with vW:=v } { q with wire:=L.map (·.1) } (W'.setCell ⟨t.B,12,none⟩ v):=by
 rw[<-h.st.eB];exact h.step (h.st.pa.setW v L a b c)
theorem Fw (h:Dr N t w F x t1 q W)(i:Nat)(v:Value)(he:(dF x).toArray.setIfInBounds i v=(dF y).toArray)(hy:y.2=x.2/\y.1.s=x.1.s):Dr N t w F y t1 q (W.setCell ⟨F,i,none⟩ v):=by
 have a:lh F W (W.setCell ⟨F,i,none⟩ v):=(lh.refl _ _).setCell i v;have b:aG W (W.setCell ⟨F,i,none⟩ v):=.BS a h.row.ty D;have c:Dh (fun k=>k=F) W (W.setCell ⟨F,i,none⟩ v):=⟨a.os,a.tape,a.output,a.size,fun k b d=>a.block k b d,b⟩;exact⟨⟨h.st.pa.apart c (fun k e=>by subst e;exact⟨h.hN,h.nd⟩) (fun k ⟨_,hu,_,h2,_⟩=>hu.ne h.row.ty h2),h.st.fr.trans c (fun k e=>.inr (by subst e;exact h.lo)),h.st.sub,h.st.eB,h.st.eC⟩,h.row.set i v he,h.nd,by rw[hy.1,hy.2];exact h.bl.keep a.size b,h.lo,h.hN⟩
theorem GJ (h:Dr N t w F x t1 q W)(b:W.grownBy W' t1.vL.ownBlock):W'.heap[t.B]? =W.heap[t.B]? /\W'.heap[F]? =W.heap[F]? :=by
 have a:=h.st.pa.Gh;rw[h.st.eB]at a;exact⟨b.block _ a.lt (fun e=>(h.st.pa.Hc _ e.symm).2.ne a D Z),b.block _ h.row.lt (fun e=>h.nd (.inr (.inr (.inr (.inr e.symm)))))⟩
theorem Eg (h:Dr N t w F x t1 q W)(b:W.grownBy W' t1.vW.ownBlock):W'.heap[t.B]? =W.heap[t.B]? /\W'.heap[F]? =W.heap[F]? :=by
 have a:=h.st.pa.Gh;rw[h.st.eB]at a;exact⟨b.block _ a.lt (fun e=>(h.st.pa.Hb _ e.symm).2.ne a D Z),b.block _ h.row.lt (fun e=>h.nd (.inr (.inr (.inr (.inl e.symm)))))⟩
end Dr
theorem tT.Hd {N:Nat}{t:Ft}{p:Pr}{w:World}{k:Nat}{u:TypeId}(h:tT N t p w)(c:dX w k u)(h0:u≠38)(h1:u≠85)(h2:u≠135)(d:u≠142)(f:u≠132)(g:u≠120)(i:u≠5)(j:u≠55):¬t.D k:=by
 intro e
 rcases e with rfl | e | e | e | e
 ·exact c.ne h.Gh h0 Z
 ·rcases e with rfl | rfl | rfl | rfl | rfl | rfl
  ·exact c.ne h.a.zs h1 Z
  ·exact c.ne h.a.BU h2 Z
  ·exact c.ne h.a.BW d Z
  ·exact c.ne h.a.BX f Z
  ·exact c.ne h.a.BY g Z
  exact c.ne h.a.Cd i Z
 ·rcases e with rfl | rfl | rfl | rfl | rfl | rfl
  ·exact c.ne h.b.zs h1 Z
  ·exact c.ne h.b.BU h2 Z
  ·exact c.ne h.b.BW d Z
  ·exact c.ne h.b.BX f Z
  ·exact c.ne h.b.BY g Z
  exact c.ne h.b.Cd i Z
 ·exact c.ne (h.Hb _ e).2 j Z
 exact c.ne (h.Hc _ e).2 j Z
theorem aL.Ep {N:Nat}{t:Ft}{p:Pr}{w w':World}{base:Nat}{v:Value}{l:List Sg}(h:aL w base v l)(a:tT N t p w)(hf:Dh t.D w w'):aL w' base v l:=by
 obtain⟨M,e,h⟩:=h;exact⟨M,e,h.keep hf.size hf.sp (fun k e=>hf.block k (h.lt k e).2 (a.Hd (h.ty k e) D D D D D D D D))⟩
end
section
open Go.RowKit Go.Shelf
def rO (W:World)(B:Nat)(x:bH):World:=((((((((((((((((W.setCell B (bI x.1.dst)).setCell ⟨B,1,none⟩ x.1.due).setCell ⟨B,2,none⟩ x.1.held).setCell ⟨B,3,none⟩ x.1.s.fp).setCell ⟨B,4,none⟩ x.1.s.tp).setCell ⟨B,5,none⟩ x.1.s.sq).setCell ⟨B,6,none⟩ x.1.s.ak).setCell ⟨B,7,none⟩ x.1.s.syn).setCell ⟨B,8,none⟩ x.1.s.fin).setCell ⟨B,9,none⟩ x.1.s.qa).setCell ⟨B,10,none⟩ x.1.s.has).setCell ⟨B,11,none⟩ x.1.s.win).setCell ⟨B,12,none⟩ x.1.s.gi).setCell ⟨B,13,none⟩ x.1.s.iu).setCell ⟨B,14,none⟩ (.slice x.2.1 x.1.s.bl.length x.2.2)).setCell ⟨B,15,none⟩ (.string ⟨x.1.s.s.toArray⟩))
theorem wM (W:World)(B:Nat)(x:bH):lh B W (rO W B x):=(((((((((((((((((lh.refl B W).setCell 0 _).setCell 1 _).setCell 2 _).setCell 3 _).setCell 4 _).setCell 5 _).setCell 6 _).setCell 7 _).setCell 8 _).setCell 9 _).setCell 10 _).setCell 11 _).setCell 12 _).setCell 13 _).setCell 14 _).setCell 15 _)
theorem bh {B:Nat}{vs:Array Value}{W:World}(h:W.heap[B]? =some (.cells vs 55 (0,0)))(i:Nat)(v:Value):(W.setCell ⟨B,i,none⟩ v).heap[B]? =some (.cells (vs.setIfInBounds i v) 55 (0,0)):=LH _ _ _ _ _ _ h
theorem aP.put {B:Nat}{x y:bH}{W:World}(h:aP B x W):aP B y (rO W B y):=by
 have:=(bh (bh (bh (bh (bh (bh (bh (bh (bh (bh (bh (bh (bh (bh (bh (bh h 0 (bI y.1.dst)) 1 y.1.due) 2 y.1.held) 3 y.1.s.fp) 4 y.1.s.tp) 5 y.1.s.sq) 6 y.1.s.ak) 7 y.1.s.syn) 8 y.1.s.fin) 9 y.1.s.qa) 10 y.1.s.has) 11 y.1.s.win) 12 y.1.s.gi) 13 y.1.s.iu) 14 (.slice y.2.1 y.1.s.bl.length y.2.2)) 15 (.string ⟨y.1.s.s.toArray⟩));simp only[dF,aY,Ld,Li,Lk]at this;exact this
theorem B7 {W:World}{B:Nat}{v0 v1 v2 v3 g h i j k l a b c d e f:Value}:lh B W ((((((((((((((((W.setCell B (v0)).setCell ⟨B,1,none⟩ (v1)).setCell ⟨B,2,none⟩ (v2)).setCell ⟨B,3,none⟩ (v3)).setCell ⟨B,4,none⟩ (g)).setCell ⟨B,5,none⟩ (h)).setCell ⟨B,6,none⟩ (i)).setCell ⟨B,7,none⟩ (j)).setCell ⟨B,8,none⟩ (k)).setCell ⟨B,9,none⟩ (l)).setCell ⟨B,10,none⟩ (a)).setCell ⟨B,11,none⟩ (b)).setCell ⟨B,12,none⟩ (c)).setCell ⟨B,13,none⟩ (d)).setCell ⟨B,14,none⟩ (e)).setCell ⟨B,15,none⟩ (f)):=(((((((((((((((((lh.refl B W).setCell 0 _).setCell 1 _).setCell 2 _).setCell 3 _).setCell 4 _).setCell 5 _).setCell 6 _).setCell 7 _).setCell 8 _).setCell 9 _).setCell 10 _).setCell 11 _).setCell 12 _).setCell 13 _).setCell 14 _).setCell 15 _)
def C8 (B:Nat)(x:bH)(W:World):Prop:=W.cell? B=some (bI x.1.dst:Y)/\W.cell? ⟨B,1,none⟩=some (x.1.due:Y)/\W.cell? ⟨B,2,none⟩=some (x.1.held:Y)/\W.cell? ⟨B,3,none⟩=some (x.1.s.fp:Y)/\W.cell? ⟨B,4,none⟩=some (x.1.s.tp:Y)/\W.cell? ⟨B,5,none⟩=some (x.1.s.sq:Y)/\W.cell? ⟨B,6,none⟩=some (x.1.s.ak:Y)/\W.cell? ⟨B,7,none⟩=some (x.1.s.syn:Y)/\W.cell? ⟨B,8,none⟩=some (x.1.s.fin:Y)/\W.cell? ⟨B,9,none⟩=some (x.1.s.qa:Y)/\W.cell? ⟨B,10,none⟩=some (x.1.s.has:Y)/\W.cell? ⟨B,11,none⟩=some (x.1.s.win:Y)/\W.cell? ⟨B,12,none⟩=some (x.1.s.gi:Y)/\W.cell? ⟨B,13,none⟩=some (x.1.s.iu:Y)/\W.cell? ⟨B,14,none⟩=some (.slice x.2.1 x.1.s.bl.length x.2.2)/\W.cell? ⟨B,15,none⟩=some (.string ⟨x.1.s.s.toArray⟩)
theorem aP.all {B:Nat}{x:bH}{W:World}(h:aP B x W):C8 B x W:=⟨h.cell 0 _ Z,h.cell 1 _ Z,h.cell 2 _ Z,h.cell 3 _ Z,h.cell 4 _ Z,h.cell 5 _ Z,h.cell 6 _ Z,h.cell 7 _ Z,h.cell 8 _ Z,h.cell 9 _ Z,h.cell 10 _ Z,h.cell 11 _ Z,h.cell 12 _ Z,h.cell 13 _ Z,h.cell 14 _ Z,h.cell 15 _ Z⟩
theorem aP.range {B:Nat}{x:bH}{W:World}(h:aP B x W):W.rangeAt B 0 (dF x):=fun j v a=>by rw[MN];exact h.cell j v a
theorem dG:(Tryz.prog.info? 55).map (·.size)=some 16:=by obtain⟨a,hi,-,hz,-⟩:=MG tF;rw[hi];exact congrArg some hz
theorem ik:(Tryz.prog.info? 53).map (·.size)=some 13:=by kernel_rfl
def Bw (b:Nat)(now:Int)(g k:Nat)(x:cQ)(W:World):Prop:=W.cell? ⟨b,13,none⟩=some (now:Y)/\W.rangeAt g (k*13) (aY x)
theorem Bw.keep {b:Nat}{now:Int}{g k:Nat}{x:cQ}{W W':World}(h:Bw b now g k x W)(h1:W'.heap[g]? =W.heap[g]?)(h2:W'.heap[b]? =W.heap[b]?):Bw b now g k x W' :=
 ⟨(Lg (a:=⟨b,13,none⟩) h2).trans h.1,fun j v c=>(Lg (a:=⟨g,k*13+j,none⟩) h1).trans (h.2 j v c)⟩
theorem Bw.Iw {b:Nat}{now:Int}{g k:Nat}{x:cQ}{w W:World}(h:W.cell? ⟨b,13,none⟩=some (now:Y))(d:∀j,j<13->∀u,(aY x)[j]? =some u->w.cell? ⟨g,k*13+j,none⟩=some u)(h1:W.heap[g]? =w.heap[g]?):Bw b now g k x W :=
 ⟨h,fun j v c=>(Lg (a:=⟨g,k*13+j,none⟩) h1).trans (d j (by have:=(ML.1 c).1;exact this) v c)⟩
def DM:bH:=(⟨false,0,false,dH⟩,none,0)
theorem rP (i:Bool):∀(l:List Sg) (p:Pr),(p.put i l).many=p.many+l.length:=by
 intro l
 induction l with
 | nil=>intro p;rfl
 | cons s l a=>intro p;exact(a (p.tt i s)).trans (by show p.many+1+l.length=p.many+(l.length+1);omega)
theorem kI (i:Bool):∀(l:List Sg) (p:Pr),(p.put i l).log.length=p.log.length+l.length/\(p.put i l).wire.length<=p.wire.length+2*l.length:=by
 intro l
 induction l with
 | nil=>intro p;exact⟨Z,L4 _⟩
 | cons s l a =>
  intro p;obtain⟨h1,h2⟩:=a (p.tt i s);have e:(p.tt i s).log.length=p.log.length+1:=by unfold Pr.tt;dsimp only;rw[La];rfl
  have b:(p.tt i s).wire.length<=p.wire.length+2:=by
   unfold Pr.tt;dsimp only;rw[La];have:(p.AA (p.fl i s)).length<=2:=by unfold Pr.AA;(repeat' split) <;> simp
   omega
  exact⟨h1.trans (by rw[e,Lx];omega),by rw[Lx];have c:(p.put i (s::l)).wire.length=((p.tt i s).put i l).wire.length:=Z;omega⟩
theorem bs (i:Bool):∀(l:List Sg) (p:Pr),(p.put i l).a=p.a/\(p.put i l).b=p.b/\(p.put i l).now=p.now/\(p.put i l).kq=p.kq:=by
 intro l
 induction l with
 | nil=>intro p;exact⟨Z,Z,Z,Z⟩
 | cons s l c=>intro p;exact c (p.tt i s)
theorem yz (p:Pr)(i:Bool)(l:List Sg)(s:Sg):p.put i (l++[s])=(p.put i l).tt i s:=by unfold Pr.put;rw[N2];rfl
theorem Dr.Hx {N F:Nat}{x y:bH}{t t1:Ft}{q:Pr}{w W:World}(h:Dr N t w F x t1 q W)(hy:bF W y.2.1 y.1.s.bl):Dr N t w F y t1 q (rO W F y):=by
 have a:=wM W F y;have b:aG W (rO W F y):=.BS a h.row.ty D;have c:Dh (fun k=>k=F) W (rO W F y):=⟨a.os,a.tape,a.output,a.size,fun k b d=>a.block k b d,b⟩;exact⟨⟨h.st.pa.apart c (fun k e=>by subst e;exact⟨h.hN,h.nd⟩) (fun k ⟨_,hu,_,h2,_⟩=>hu.ne h.row.ty h2),h.st.fr.trans c (fun k e=>.inr (by subst e;exact h.lo)),h.st.sub,h.st.eB,h.st.eC⟩,h.row.put,h.nd,hy.keep a.size b,h.lo,h.hN⟩
theorem Dr.Gj {N F:Nat}{x:bH}{t t1:Ft}{q q':Pr}{w W:World}(h:Dr N t w F x t1 q W)(e:q'=q):Dr N t w F x t1 q' W:=e ▸ h
def Pr.lg (q:Pr)(i:Bool)(s:Sg):Pr:={ q with many:=q.many+1,log:=q.log++[q.fl i s] }
theorem kJ (q:Pr)(i:Bool)(s:Sg)(L:List Fl)(h:q.AA (q.fl i s)=L):q.tt i s={ q.lg i s with wire:=q.wire++L }:=by rw[<-h];rfl
def lA (N:Nat)(t:Ft)(w:World)(p:Pr)(e:Ending)(w':World):Prop:=e= .returned (.tuple #[])/\B6 N t w p w'
end
section
open Go.RowKit Go.Shelf
def zA (mb:Nat)(ba bb:Bool)(W:World):Prop:=W.heap[mb]? =some (.cells #[ba,bb] 111 (0,0))
structure Dl (N:Nat)(t:Ft)(w:World)(t1:Ft)(q:Pr)(D0 L:List bH)(v2 v3:Value)(mb:Nat)(ba bb:Bool)(W:World):Prop where
 st:pE N t w t1 q W
 d:bM W N v2 D0
 l:bM W N v3 L
 ne:∀k,v2.ownBlock=some k->v3.ownBlock≠some k
 nd:∀k,v2.ownBlock=some k->¬t1.D k/\w.heap.size<=k
 nl:∀k,v3.ownBlock=some k->¬t1.D k/\w.heap.size<=k
 met:zA mb ba bb W
 nm:¬t1.D mb/\w.heap.size<=mb
 hw:N<=w.heap.size
theorem bM.val' {w:World}{N:Nat}{v:Value}{L:List bH}(h:bM w N v L):∃a cap,v= .slice a L.length cap:=by
 obtain⟨a,cap,h1,-⟩:=h.val;exact⟨a,cap,h1⟩
namespace Dl
variable {N : Nat} {t t1 t2 : Ft} {q q' : Pr} {D0 L : List bH} {v2 v3 v : Value} {mb : Nat} {ba bb : Bool} {w W W' : World}
theorem start {p:Pr}(h:tT N t p w):Dl N t w t p [] [] (.slice none 0 0) (.slice none 0 0) w.heap.size false false (w.alloc (.cells #[false,false] 111)) :=
 ⟨h.alloc _,bM.nil _ _,bM.nil _ _,(fun _ h=>nomatch h),(fun _ h=>nomatch h),(fun _ h=>nomatch h),Lp _ _,⟨fun e=>MD _ (h.Gz _ e).1,L4 _⟩,h.big⟩
theorem mlt (h:Dl N t w t1 q D0 L v2 v3 mb ba bb W):mb<W.heap.size:=(L6.1 h.met).1
theorem mty (h:Dl N t w t1 q D0 L v2 v3 mb ba bb W):dX W mb 111:=⟨_,_,h.met⟩
theorem oz (h:Dl N t w t1 q D0 L v2 v3 mb ba bb W)(a:Below W.heap.size W W'):Dl N t w t1 q D0 L v2 v3 mb ba bb W' :=
 ⟨h.st.oz a,h.d.below a,h.l.below a,h.ne,h.nd,h.nl,(a.block _ h.mlt).trans h.met,h.nm,h.hw⟩
theorem pair (h:Dl N t w t1 q D0 L v2 v3 mb ba bb W)(k:pE N t1 W t2 q' W'):Dl N t w t2 q' D0 L v2 v3 mb ba bb W':=by
 have a:∀x,x<W.heap.size->¬t1.D x->¬t2.D x:=fun x c b e=>by
  rcases k.sub x e with h1 | h1
  ·exact b h1
  omega
 exact⟨h.st.trans k,h.d.keep k.fr.size k.fr.sp (fun x e=>k.fr.block x (h.d.lt x e).2 (h.nd x e).1),h.l.keep k.fr.size k.fr.sp (fun x e=>k.fr.block x (h.l.lt x e).2 (h.nl x e).1),h.ne,fun x e=>⟨a x (h.d.lt x e).2 (h.nd x e).1,(h.nd x e).2⟩,fun x e=>⟨a x (h.l.lt x e).2 (h.nl x e).1,(h.nl x e).2⟩,(k.fr.block mb h.mlt h.nm.1).trans h.met,⟨a mb h.mlt h.nm.1,h.nm.2⟩,h.hw⟩
theorem frame (a:W.grownBy W' v.ownBlock)(ho:bM W N v D0):Dh (fun k=>v.ownBlock=some k) W W':=⟨a.os,a.tape,a.output,a.size,fun k b c=>a.block k b (fun e=>c e.symm),ho.t8 a⟩
theorem I9 (h:pE N t w t1 q W)(ho:bM W N v D0)(a:∀k,v.ownBlock=some k->¬t1.D k/\w.heap.size<=k)(b:W.grownBy W' v.ownBlock):pE N t w t1 q W' :=
 ⟨h.pa.apart (frame b ho) (fun k e=>⟨(ho.lt k e).1,(a k e).1⟩) (fun k ⟨_,hu,_,h2,_⟩ e=>hu.ne (ho.ty k e) h2 Z),h.fr.trans (frame b ho) (fun k e=>.inr (a k e).2),h.sub,h.eB,h.eC⟩
theorem Ia (h:pE N t w t1 q W)(k:Nat)(a:t1.D k):k<W.heap.size:=(h.pa.Gz k a).1
theorem He (h:Dl N t w t1 q D0 L v2 v3 mb ba bb W){x:bH}(ho:bM W' N v (D0++[x]))(b:W.grownBy W' v2.ownBlock)(f:v.ownBlock=v2.ownBlock\/∃k,v.ownBlock=some k/\W.heap.size<=k):Dl N t w t1 q (D0++[x]) L v v3 mb ba bb W':=by
 have hs:=h.st.size;refine⟨I9 h.st h.d h.nd b,ho,h.l.keep b.size (h.d.t8 b) (fun k e=>b.block k (h.l.lt k e).2 (fun a=>h.ne k a.symm e)),fun k e=> ?_,fun k e=> ?_,h.nl,(b.block mb h.mlt (fun e=>h.mty.ne (h.d.ty mb e.symm) D Z)).trans h.met,h.nm,h.hw⟩
 ·rcases f with a | ⟨g,a,h2⟩
  ·exact h.ne k (a ▸ e)
  rw[a]at e
  cases e
  exact fun c=>by have:=(h.l.lt _ c).2;omega
 rcases f with a | ⟨g,a,h2⟩
 ·exact h.nd k (a ▸ e)
 rw[a]at e
 cases e
 exact⟨fun c=>by have:=Ia h.st _ c;omega,O⟩
theorem Hy (h:Dl N t w t1 q D0 L v2 v3 mb ba bb W){x:bH}(ho:bM W' N v (L++[x]))(b:W.grownBy W' v3.ownBlock)(f:v.ownBlock=v3.ownBlock\/∃k,v.ownBlock=some k/\W.heap.size<=k):Dl N t w t1 q D0 (L++[x]) v2 v mb ba bb W':=by
 have hs:=h.st.size;refine⟨I9 h.st h.l h.nl b,h.d.keep b.size (h.l.t8 b) (fun k e=>b.block k (h.d.lt k e).2 (fun a=>h.ne k e a.symm)),ho,fun k e=> ?_,h.nd,fun k e=> ?_,(b.block mb h.mlt (fun e=>h.mty.ne (h.l.ty mb e.symm) D Z)).trans h.met,h.nm,h.hw⟩
 ·rcases f with a | ⟨g,a,h2⟩
  ·rw[a];exact h.ne k e
  rw[a];intro c
  cases c
  have:=(h.d.lt _ e).2;omega
 rcases f with a | ⟨g,a,h2⟩
 ·exact h.nl k (a ▸ e)
 rw[a]at e
 cases e
 exact⟨fun c=>by have:=Ia h.st _ c;omega,O⟩
theorem flag (h:Dl N t w t1 q D0 L v2 v3 mb ba bb W)(i:Nat)(u:Value)(c f:Bool)(he:(#[ba,bb]:Array Value).setIfInBounds i u= #[(c:Y),f]):Dl N t w t1 q D0 L v2 v3 mb c f (W.setCell ⟨mb,i,none⟩ u):=by
 have a:lh mb W (W.setCell ⟨mb,i,none⟩ u):=(lh.refl _ _).setCell i u;have b:aG W (W.setCell ⟨mb,i,none⟩ u):=.BS a h.mty D;have g:Dh (fun k=>k=mb) W (W.setCell ⟨mb,i,none⟩ u):=⟨a.os,a.tape,a.output,a.size,fun k b j=>a.block k b j,b⟩;have m:N<=mb:=L8 h.hw h.nm.2;refine⟨⟨h.st.pa.apart g (fun k e=>by subst e;exact⟨m,h.nm.1⟩) (fun k ⟨_,hu,_,_,_,_,_,_,_,_,h9⟩=>hu.ne h.mty h9),h.st.fr.trans g (fun k e=>.inr (by subst e;exact h.nm.2)),h.st.sub,h.st.eB,h.st.eC⟩,h.d.keep a.size b (fun k e=>a.block k (h.d.lt k e).2 ((h.d.ty k e).ne h.mty D)),h.l.keep a.size b (fun k e=>a.block k (h.l.lt k e).2 ((h.l.ty k e).ne h.mty D)),h.ne,h.nd,h.nl,?_,h.nm,h.hw⟩;unfold zA;rw[LH _ _ _ _ _ _ h.met,he]
theorem Gj (h:Dl N t w t1 q D0 L v2 v3 mb ba bb W)(e:q'=q):Dl N t w t1 q' D0 L v2 v3 mb ba bb W:=e ▸ h
theorem Iy (h:Dl N t w t1 q D0 L v2 v3 mb ba bb W){F:Nat}{x:bH}(hF:aP F x W)(a:bF W x.2.1 x.1.s.bl)(h1:w.heap.size<=F)(h2:¬t1.D F):Dr N t w F x t1 q W:=⟨h.st,hF,h2,a,h1,L8 h.hw h1⟩
theorem DV (h:Dl N t w t1 q D0 L v2 v3 mb ba bb W)(i:Nat)(u:Value)(a:(#[ba,bb]:Array Value)[i]? =some u):W.cell? ⟨mb,i,none⟩=some u:=by rw[Ln _ _ _ _ _ _ h.met];exact a
theorem GA (h:Dl N t w t1 q D0 L v2 v3 mb ba bb W)(i:Nat):W.frozen? ⟨mb,i,none⟩=false:=LT _ _ _ _ _ h.met
end Dl
theorem bM.at {w:World}{N:Nat}{v:Value}{M:List bH}(h:bM w N v M){k:Nat}(b:k<M.length) :
  ∃g cap,v= .slice (some ⟨g,0,none⟩) M.length cap/\g<w.heap.size/\∀j,j<16->∀u,(dF M[k])[j]? =some u->w.cell? ⟨g,k*16+j,none⟩=some u:=by
 obtain⟨g,cap,c,i,d,l,a⟩:=h.cells O;exact⟨g,cap,c,d,fun j e u f=>by have:=a (k*16+j) u (by rw[wL M k b j e];exact f);rwa [Ms,MN]at this⟩
theorem mv {w:World}{g k:Nat}{x:bH}(h:∀j,j<16->∀u,(dF x)[j]? =some u->w.cell? ⟨g,k*16+j,none⟩=some u):w.rangeAt g (k*16) (dF x):=fun j v a=>h j (by have:=(ML.1 a).1;exact this) v a
theorem tG {w:World}{b:Nat}{t:TypeId}{a:Nat×Nat}{x:bH}(h:w.heap[b]? =some (.cells (dF x).toArray t a)):∀j u,(bL [x])[j]? =some u->w.cell? ((⟨b,0,none⟩:Addr).add j)=some u:=by
 intro j u c;rw[Ms,MN,Ln _ _ _ _ _ _ h]
 simpa[bL]using c
end
section
set_option maxRecDepth 100000
open Go.RowKit Go.Shelf
set_option maxHeartbeats 40000000 in
theorem cO (N:Nat) (t:Ft) (p:Pr) (i:Bool) (base:Nat) (v:Value) (l:List Sg) (w:World) (h:tT N t p w) (hl:aL w base v l) (e3:p.log.length+l.length<=500000000000) (d7:p.wire.length+2*l.length<=500000000000) (d8:p.many+l.length<=1000000000000) (e4:0<=p.now/\p.now<=1000000) :
  Calls Tryz.prog 16 #[t.B,(bI i),v] w (lA N t w (p.put i l)):=by
 obtain⟨M,rfl,hG⟩:=hl;rw[LI]at e3 d7 d8;obtain⟨a,f1,rfl,g4,-⟩:=hG.val;have bd:=H h;have HG:=H hG;have hz:0<=bI i/\bI i<=1:=by unfold bI;cases i <;> decide
 have be:=H (show 1-bI i=bI (!i) by unfold bI;cases i <;> rfl);obtain⟨z,bk⟩:∃z,z=bI i:=⟨_,Z⟩;rw[<-bk]at hz be|-;clear bk;obtain⟨g5,g6⟩:=hz;have cg:=H h.G0;have ch:=h.G0.small;have ci:M.length<=500000000000:=O
 obtain⟨R,hR⟩:∃R,R=p.put i (M.map (·.1)):=⟨_,Z⟩;rw[<-hR];have HR:=H hR;clear hR h hG
 go_enter Tryz.func16,Tryz.ntmps16
 go_wp2_with fail
 go_loopg [6] M.length (fun g iv wr=>∃(k:Nat) (t1:Ft),iv=((k:Int):Y)/\g+k=M.length/\pE N t w t1 (p.put i ((M.take k).map (·.1))) wr)
 case atStart=>exact⟨0,t,Z,O,.start bd.o⟩
 case round =>
  obtain⟨k,t1,rfl,cl,d4⟩:=hrel;have C:=H d4;clear d4;by_cases hk:k<M.length
  ·have cn:(k:Int)<(M.length:Int):=by omega
   have X:=H (bs i ((M.take k).map (·.1)) p);have b5:=H (rP i ((M.take k).map (·.1)) p);have ax:=H (kI i ((M.take k).map (·.1)) p);have e5:((M.take k).map (·.1)).length=k:=by rw[LI,Le];omega
   have b0:=H (show p.put i ((M.take (k+1)).map (·.1))=(p.put i ((M.take k).map (·.1))).tt i M[k].1 by rw[Lv hk,LN];exact yz _ _ _ _);rw[e5]at b5 ax;clear e5;generalize p.put i ((M.take k).map (·.1))=q at C X b5 ax b0;have cV:0<=q.now/\q.now<=1000000:=by rw[X.2.2.1];exact e4
   obtain⟨cX,cY⟩:=cV;have cq:(q.many:Int)<=1000000000000:=by have:=b5.o;omega
   have c0:q.kq=p.kq:=X.2.2.2;have c1:=H C.pa.G0;have g7:q.kq.length<=1000:=c1.small;obtain⟨g,e6,hv,g8,d9,bn,e7⟩:=HG.cells (show 0<M.length by omega);obtain⟨rfl,rfl⟩:a=some ⟨g,0,none⟩/\f1=e6:=by cases hv;exact⟨Z,Z⟩
   have c2:=H e7;have c3:=H (show ∀W,Dh t.D w W->W.heap[g]? =w.heap[g]? from fun W hf=>hf.block g d9 (bd.Hd (HG.ty g Z) D D D D D D D D));clear hv e7;have b6:=H (show M[k]∈M from LP hk);have bo:=H (show ∀j,j<13->∀u,(aY M[k])[j]? =some u->w.cell? ⟨g,k*13+j,none⟩=some u from fun j hj u hu=>by have:=c2.o (k*13+j) u (by rw[vl M k hk j hj];exact hu);rwa [Ms,MN]at this);obtain⟨x,hx⟩:∃x,x=M[k]:=⟨_,Z⟩;rw[<-hx]at b0 b6 bo;clear hx c0;have f3:=C.cell 14 (.slice t1.aF q.kq.length t1.cF) Z;have e0:=C.cell 15 (q.many:Int) Z;go_wp2_with fail;clear f3 e0;refine az (fun W:World=>W.cell? ⟨t.B,14,none⟩=some (.slice t1.aF q.kq.length t1.cF)/\W.cell? ⟨t.B,15,none⟩=some ((q.many:Int):Y)) (⟨C.cell 14 (.slice t1.aF q.kq.length t1.cF) Z,C.cell 15 (q.many:Int) Z⟩) fun m=>?_;replace C:=H (C.oz (L3 _ _).drew);generalize wr.drew=w1 at C m|-;refine aA 0 1 2 3 ?_;refine aA 4 5 6 7 ?_;refine aM 8 9 ?_;refine ay ?_ _;clear m
   go_upto_if 24 with fail
   go_cut [7]from 24 to 36 (fun fv wx=>fv=(q.wB:Y)/\pE N t w t1 q wx)
   case first =>
    by_cases hm:q.many<q.kq.length
    ·have c5:decide ((q.many:Int)<(q.kq.length:Int))=true:=Lc O;have b1:=H C.pa.G0;obtain⟨b,o,ha,cs,bu⟩:=b1.cells O;have d6:=bu q.many hm;have bv:=H (b1.zu _ (LP hm));have a2:=H (show q.wB=aO q.kq[q.many] 24 by unfold Pr.wB;rw[Na hm]);generalize q.kq[q.many]=fx at d6 bv a2;have HA:=H ha;clear bu b1 ha;go_wp2_with fail;refine az (fun W:World=>W.cell? ⟨t.B,14,none⟩=some (.slice (some ⟨b,o,none⟩) q.kq.length t1.cF)/\W.cell? ⟨t.B,15,none⟩=some ((q.many:Int):Y)/\W.cell? ⟨b,o+q.many,none⟩=some (fx:Y)) (⟨by have:=C.cell 14 (.slice t1.aF q.kq.length t1.cF) Z;rwa [HA.o]at this,C.cell 15 (q.many:Int) Z,d6⟩) fun m=>?_;replace C:=H (C.oz (L3 _ _).drew);have e8:w1.drew.cell? ⟨b,o+q.many,none⟩=some (fx:Y):=d6;clear d6;generalize w1.drew=w2 at C m e8|-;refine aA 0 1 2 3 ?_;refine aA 4 5 6 7 ?_;refine aM 8 9 ?_;refine aZ 10 fun r c=> ?_;go_simp;refine(dE fx 24 _ bv.o D D).mono ?_;rintro e w3⟨rfl,rfl⟩;go_simp;refine c.out _ _ (m) ?_;clear c r m;refine fun m=>aW ?_;refine aQ 11 ?_;refine ay ?_ _;clear m;go_wp2_with fail
     go_meet
     case rel=>exact⟨by rw[a2.o],C.o⟩
    have c5:decide ((q.many:Int)<(q.kq.length:Int))=false:=Lf O;have a2:=H (show q.wB=0 by unfold Pr.wB;rw[MZ O]);go_wp2_with fail
    go_meet
    case rel=>exact⟨by rw[a2.o],C.o⟩
   case rest =>
    obtain⟨rfl,d4⟩:=hcut;clear C;have C:=H d4;have c6:=H ((HG.2 x b6.o).keep d4.fr.size d4.fr.sp);clear d4;have e0:=C.cell 15 (q.many:Int) Z;have f4:=C.free 15;have bx:=H (C.set 15 ((q.many:Int)+1:Int) { q with many:=q.many+1 } Z Z Z Z Z Z);go_wp2_with fail;clear e0 f4;replace C:=bx;clear bx c6;generalize wc.setCell ⟨t.B,15,none⟩ ((q.many:Int)+1:Int)=w6 at C|-;have bz:=H (Bw.Iw (W:=w6.drew) (C.cell 13 q.now Z) bo.o (c3.o _ (C.oz (L3 _ _).drew).fr));refine az (Bw t.B q.now g k x) (bz.o) fun m=>?_;replace C:=H (C.oz (L3 w6.heap.size w6).drew);obtain⟨ac,e9⟩:∃ac,ac=w6.drew:=⟨_,Z⟩;rw[<-e9]at C m|-;clear e9 bz;refine aA 0 1 2 3 ?_;refine aA 4 5 6 7 ?_;refine aM 8 9 ?_;refine sA 10 (aY x) (fun _ h=>h.2) Tryz.underlying53 ik ?_ (ha:=by((try simp only[Act.put,Ld,Li,Lk,aY]);(try rfl)));refine aQ 11 ?_;have K:=(L3 ac.heap.size ac).alloc (L4 _) (.cells #[(0:Int),(0:Int),false,(0:Int),(0:Int),(0:Int),(0:Int),false,false,false,false,(0:Int),(0:Int),false,.slice none 0 0,.string ⟨#[]⟩] 55);refine aZ 12 fun r c=> ?_;go_simp;refine c.out _ _ (m.keep (K.block g (Lb d9 C.size)) (K.block t.B (by rw[<-C.eB];exact C.pa.lt))) ?_;clear c r m;refine fun m=>aW ?_;have d:=H (show Dr N t w ac.heap.size DM t1 { q with many:=q.many+1 } (ac.alloc (.cells #[(0:Int),(0:Int),false,(0:Int),(0:Int),(0:Int),(0:Int),false,false,false,false,(0:Int),(0:Int),false,.slice none 0 0,.string ⟨#[]⟩] 55))from Dr.new (x:=DM) C.o (bF.nil _ _));have b7:g<ac.heap.size:=Lb d9 C.size;have b8:t.B<ac.heap.size:=by rw[<-C.eB];exact C.pa.lt
    generalize hF:ac.heap.size=F at d b7 b8|-;clear K hF;generalize ac.alloc (.cells #[(0:Int),(0:Int),false,(0:Int),(0:Int),(0:Int),(0:Int),false,false,false,false,(0:Int),(0:Int),false,.slice none 0 0,.string ⟨#[]⟩] 55)=w7 at *;have k0:w7.cell? F=some ((0:Int):Y):=d.row.cell 0 _ Z;have k1:w7.cell? ⟨F,1,none⟩=some ((0:Int):Y):=d.row.cell 1 _ Z;have k2:w7.cell? ⟨F,2,none⟩=some (false:Y):=d.row.cell 2 _ Z;have k3:w7.cell? ⟨F,3,none⟩=some ((0:Int):Y):=d.row.cell 3 _ Z;have k4:w7.cell? ⟨F,4,none⟩=some ((0:Int):Y):=d.row.cell 4 _ Z;have k5:w7.cell? ⟨F,5,none⟩=some ((0:Int):Y):=d.row.cell 5 _ Z;have k6:w7.cell? ⟨F,6,none⟩=some ((0:Int):Y):=d.row.cell 6 _ Z;have k7:w7.cell? ⟨F,7,none⟩=some (false:Y):=d.row.cell 7 _ Z;have k8:w7.cell? ⟨F,8,none⟩=some (false:Y):=d.row.cell 8 _ Z;have k9:w7.cell? ⟨F,9,none⟩=some (false:Y):=d.row.cell 9 _ Z;have f5:w7.cell? ⟨F,10,none⟩=some (false:Y):=d.row.cell 10 _ Z;have f6:w7.cell? ⟨F,11,none⟩=some ((0:Int):Y):=d.row.cell 11 _ Z;have f7:w7.cell? ⟨F,12,none⟩=some ((0:Int):Y):=d.row.cell 12 _ Z;have f8:w7.cell? ⟨F,13,none⟩=some (false:Y):=d.row.cell 13 _ Z;have f9:w7.cell? ⟨F,14,none⟩=some (.slice none 0 0):=d.row.cell 14 _ Z;have g0:w7.cell? ⟨F,15,none⟩=some (.string ⟨#[]⟩):=d.row.cell 15 _ Z;have l0:=d.row.free 0;have l1:=d.row.free 1;have l2:=d.row.free 2;have l3:=d.row.free 3;have l4:=d.row.free 4;have l5:=d.row.free 5;have l6:=d.row.free 6;have l7:=d.row.free 7;have l8:=d.row.free 8;have l9:=d.row.free 9;have c7:=d.row.free 10;have c8:=d.row.free 11;have c9:=d.row.free 12;have ca:=d.row.free 13;have cb:=d.row.free 14;have cf:=d.row.free 15;refine aZ 13 fun r c=> ?_;go_simp;refine c.out _ _ (m.keep (B7.block g (Nat.lt_trans b7 d.row.lt) (Np b7)) (B7.block t.B (Nat.lt_trans b8 d.row.lt) (Np b8))) ?_;clear c r m;refine fun m=>aW ?_;refine ay ?_ _;clear m k0 l0 k1 l1 k2 l2 k3 l3 k4 l4 k5 l5 k6 l6 k7 l7 k8 l8 k9 l9 f5 c7 f6 c8 f7 c9 f8 ca f9 cb g0 cf;rw[LC (1-z) O,LC (q.now+1) O,be.o];obtain⟨w8,e1⟩:∃w8,w8=((((((((((((((((w7.setCell F (bI (!i))).setCell ⟨F,1,none⟩ (q.now+1:Int)).setCell ⟨F,2,none⟩ false).setCell ⟨F,3,none⟩ (.int .i64 x.1.fp)).setCell ⟨F,4,none⟩ (.int .i64 x.1.tp)).setCell ⟨F,5,none⟩ (.int .i64 x.1.sq)).setCell ⟨F,6,none⟩ (.int .i64 x.1.ak)).setCell ⟨F,7,none⟩ (.bool x.1.syn)).setCell ⟨F,8,none⟩ (.bool x.1.fin)).setCell ⟨F,9,none⟩ (.bool x.1.qa)).setCell ⟨F,10,none⟩ (.bool x.1.has)).setCell ⟨F,11,none⟩ (.int .i64 x.1.win)).setCell ⟨F,12,none⟩ (.int .i64 x.1.gi)).setCell ⟨F,13,none⟩ (.bool x.1.iu)).setCell ⟨F,14,none⟩ (.slice x.2.1 x.1.bl.length x.2.2)).setCell ⟨F,15,none⟩ (.string ⟨x.1.s.toArray⟩)):=⟨_,Z⟩;rw[<-e1];have cC:=H ((HG.2 x b6.o).keep d.st.fr.size d.st.fr.sp);replace d:=H (show Dr N t w F ((q.fl i x.1,x.2.1,x.2.2):bH) t1 { q with many:=q.many+1 } w8 from by rw[e1];exact d.Hx cC.o);clear e1 cC C;obtain⟨y,hy⟩:∃y:bH,y=((q.fl i x.1,x.2.1,x.2.2):bH):=⟨_,Z⟩;rw[<-hy]at d;have HY:=H hy;clear hy;obtain⟨tc,f0⟩:∃tc,tc=t1:=⟨_,Z⟩;rw[<-f0]at d;clear f0
    go_upto_region 8 with fail
    go_cut []from 55 to 65 (fun wx=>∃t5,Dr N t w F y t5 (q.lg i x.1) wx)
    case first =>
     refine az (aP F y) (d.row) fun m=>?_;replace d:=H (d.oz (L3 _ _).drew);generalize b3:World.drew _=w9 at d m|-;clear b3;have cS:w9.cell? ⟨t.B,16,none⟩=some tc.vL:=d.st.cell 16 _ Z;have K:=(L3 w9.heap.size w9).alloc (L4 _) (.cells (bL ([y]:List bH)).toArray 55);have a0:t.B<w9.heap.size:=by rw[<-d.st.eB];exact d.st.pa.lt
     have ag:=(Lg (a:=⟨t.B,16,none⟩) (K.block t.B a0)).trans cS;refine aM 0 1 ?_;refine sA 5 (dF y) (fun _ h=>aP.range h) Tryz.underlying55 dG ?_ (ha:=by((try simp only[Act.put,Ld,Li,Lk,dF,aY]);(try rfl)));refine aM 2 3 ?_;refine wpAnyH_ready (rs:=[4,6]) IG FE ?_;refine AllReadyH.cons (by simp only[Lt,Ls,Lo];rfl) (fun r c=> ?_) (AllReadyH.cons (by simp only[Lt,Ls,Lo];rfl) (fun r c=> ?_) AllReadyH.nil)
     focus
      go_simp;refine c.out _ _ (m) ?_;clear c r m;refine fun m=>aW ?_;refine aZ 6 fun r c=> ?_;go_simp;refine c.out _ _ ((aP.below d.row K)) ?_;clear c r m;refine fun m=>aW ?_
     rotate_left 1
     focus
      go_simp;refine c.out _ _ ((aP.below d.row K)) ?_;clear c r m;refine fun m=>aW ?_;refine aZ 4 fun r c=> ?_;go_simp;refine c.out _ _ (m) ?_;clear c r m;refine fun m=>aW ?_
     all_goals
      as_aux_lemma =>
       have A:=H (d.oz K);have a6:=H (gU (M:=[y]) (Lp w9 (.cells (bL ([y]:List bH)).toArray 55)));obtain⟨P,a3,S⟩:=A.st.pa.log;have a7:=H a3;have a9:=H S;have hlen:P.length=q.log.length:=by rw[<-LI (f:=(·.1)),a3]
       clear a3 S;have aa:=H (show P.length+1<=1000000000000 by rw[hlen];have:=ax.o;omega);clear hlen;have ab:=H (show ∀u∈([y]:List bH),bF (w9.alloc (.cells (bL ([y]:List bH)).toArray 55)) u.2.1 u.1.s.bl from fun u hu=>by rw[show u=y by simpa using hu];exact A.bl);refine aZ 7 fun r c=> ?_;refine cA Z _ _ Z N _ P IJ a9.o w9.heap.size 0 1 [y] IJ a6.o ab.o aa.o A.st.pa.big ?_;intro v4 E G I n;obtain⟨a4,c4,T,-,-⟩:=G.val;obtain⟨n4,U⟩:∃n4,n4=(P++[y]).length:=⟨_,Z⟩;rw[<-U]at T;subst T;clear U;have X:=H (A.GJ I);have a5:=H (A.log _ (P++[y]) I G (fun kk J=>by rcases n with n | ⟨k2,n,b4⟩;exact .inl JD;exact .inr JE));have cT:E.cell? ⟨t.B,16,none⟩=some tc.vL:=(Lg (a:=⟨t.B,16,none⟩) X.1).trans (A.st.cell 16 _ Z);have gT:E.frozen? ⟨t.B,16,none⟩=false:=JG
       have a1:aP F y E:=X.2.trans A.row;clear G I n;refine c.out _ _ (a1) ?_;clear c r m;refine fun m=>aW ?_;refine aM 8 9 ?_;refine aZ 10 fun r c=> ?_;go_simp;refine c.out _ _ (a5.row) ?_;clear c r m;refine fun m=>aW ?_;refine ay ?_ _;clear m cT gT a1 cS ag K a0;replace d:=H (a5.Gj (q':=(q.lg i x.1)) (by unfold Pr.lg;rw[LN,a7.o,HY.o];rfl));clear a5 X A a6 a9 aa ab a7;go_wp2_with fail
       go_meet
       case rel=>exact⟨_,d.o⟩
    case rest =>
     clear d;obtain⟨tc,hP⟩:=hcut;have d:=H hP;clear hP;have cL:=H (show 0<=q.wB/\q.wB<24 by unfold Pr.wB;split;exact ah _ 24 D;exact⟨D,D⟩);obtain⟨fv,e2⟩:∃fv,fv=q.wB:=⟨_,Z⟩;rw[<-e2]at cL|-;have a2:=H e2;clear e2;by_cases h0:fv=0
     ·subst h0;have al:=H (show q.AA (q.fl i x.1)=[q.fl i x.1] by unfold Pr.AA;rw[L7 a2.symm]);go_wp2_with fail;refine az (aP F y) (d.row) fun m=>?_;replace d:=H (d.oz (L3 _ _).drew);generalize b3:World.drew _=w9 at d m|-;clear b3;have cS:w9.cell? ⟨t.B,12,none⟩=some tc.vW:=d.st.cell 12 _ Z;have K:=(L3 w9.heap.size w9).alloc (L4 _) (.cells (bL ([y]:List bH)).toArray 55);have a0:t.B<w9.heap.size:=by rw[<-d.st.eB];exact d.st.pa.lt
      have ag:=(Lg (a:=⟨t.B,12,none⟩) (K.block t.B a0)).trans cS;refine aM 0 1 ?_;refine sA 5 (dF y) (fun _ h=>aP.range h) Tryz.underlying55 dG ?_ (ha:=by((try simp only[Act.put,Ld,Li,Lk,dF,aY]);(try rfl)));refine aM 2 3 ?_;refine wpAnyH_ready (rs:=[4,6]) IG FE ?_;refine AllReadyH.cons (by simp only[Lt,Ls,Lo];rfl) (fun r c=> ?_) (AllReadyH.cons (by simp only[Lt,Ls,Lo];rfl) (fun r c=> ?_) AllReadyH.nil)
      focus
       go_simp;refine c.out _ _ (m) ?_;clear c r m;refine fun m=>aW ?_;refine aZ 6 fun r c=> ?_;go_simp;refine c.out _ _ ((aP.below d.row K)) ?_;clear c r m;refine fun m=>aW ?_
      rotate_left 1
      focus
       go_simp;refine c.out _ _ ((aP.below d.row K)) ?_;clear c r m;refine fun m=>aW ?_;refine aZ 4 fun r c=> ?_;go_simp;refine c.out _ _ (m) ?_;clear c r m;refine fun m=>aW ?_
      all_goals
       as_aux_lemma =>
        have A:=H (d.oz K);have a6:=H (gU (M:=[y]) (Lp w9 (.cells (bL ([y]:List bH)).toArray 55)));obtain⟨P,a3,S⟩:=A.st.pa.wire;have a7:=H a3;have a9:=H S;have hlen:P.length=q.wire.length:=JS
        clear a3 S;have aa:=H (show P.length+1<=1000000000000 by rw[hlen];have:=ax.o;omega);clear hlen;have ab:=H (show ∀u∈([y]:List bH),bF (w9.alloc (.cells (bL ([y]:List bH)).toArray 55)) u.2.1 u.1.s.bl from fun u hu=>by rw[show u=y by simpa using hu];exact A.bl);refine aZ 7 fun r c=> ?_;refine cA Z _ _ Z N _ P IJ a9.o w9.heap.size 0 1 [y] IJ a6.o ab.o aa.o A.st.pa.big ?_;intro v4 E G I n;obtain⟨a4,c4,T,-,-⟩:=G.val;obtain⟨n4,U⟩:∃n4,n4=(P++[y]).length:=⟨_,Z⟩;rw[<-U]at T;subst T;clear U;have X:=H (A.Eg I);have a5:=H (A.wire _ (P++[y]) I G (fun kk J=>by rcases n with n | ⟨k2,n,b4⟩;exact .inl JD;exact .inr JE));have cT:E.cell? ⟨t.B,12,none⟩=some tc.vW:=(Lg (a:=⟨t.B,12,none⟩) X.1).trans (A.st.cell 12 _ Z);have gT:E.frozen? ⟨t.B,12,none⟩=false:=JG
        have a1:aP F y E:=X.2.trans A.row;clear G I n;refine c.out _ _ (a1) ?_;clear c r m;refine fun m=>aW ?_;refine aM 8 9 ?_;refine aZ 10 fun r c=> ?_;go_simp;refine c.out _ _ (a5.row) ?_;clear c r m;refine fun m=>aW ?_;refine ay ?_ _;clear m cT gT a1 cS ag K a0;replace d:=H (a5.Gj (q':=(q.tt i x.1)) (by rw[kJ q i x.1 [q.fl i x.1] al.o,LN,a7.o];simp only[M6,Mp,HY.o];rfl));clear a5 X A a6 a9 aa ab a7;go_wp2_with fail
        go_roundg (gk-1)
        case measure=>omega
        case rel=>exact⟨k+1,_,IY,O,JH⟩
     have H0:=H h0;have d0:(fv==0)=false:=Ll.2 h0;clear h0;by_cases h1:fv=1
     ·subst h1;have al:=H (show q.AA (q.fl i x.1)=[] by unfold Pr.AA;rw[L5 (show ¬q.wB=0 from fun e=>by have:=H0.o;exact this (a2.trans e)),L7 a2.symm]);replace d:=H (d.Gj (q':=q.tt i x.1) (by rw[kJ q i x.1 [] al.o,LM];rfl));go_wp2_with fail
      go_roundg (gk-1)
      case measure=>omega
      case rel=>exact⟨k+1,_,IY,O,JH⟩
     have H1:=H h1;have d1:(fv==1)=false:=Ll.2 h1;clear h1;by_cases h2:fv=2
     ·subst h2;have al:=H (show q.AA (q.fl i x.1)=[q.fl i x.1,q.fl i x.1] by unfold Pr.AA;rw[L5 (show ¬q.wB=0 from fun e=>by have:=H0.o;exact this (a2.trans e)),L5 (show ¬q.wB=1 from fun e=>by have:=H1.o;exact this (a2.trans e)),L7 a2.symm]);go_wp2_with fail;refine az (aP F y) (d.row) fun m=>?_;replace d:=H (d.oz (L3 _ _).drew);generalize b3:World.drew _=w9 at d m|-;clear b3;have cS:w9.cell? ⟨t.B,12,none⟩=some tc.vW:=d.st.cell 12 _ Z;have K:=(L3 w9.heap.size w9).alloc (L4 _) (.cells (bL ([y,y]:List bH)).toArray 55);have a0:t.B<w9.heap.size:=by rw[<-d.st.eB];exact d.st.pa.lt
      have ag:=(Lg (a:=⟨t.B,12,none⟩) (K.block t.B a0)).trans cS;refine aM 0 1 ?_;refine sA 5 (dF y) (fun _ h=>aP.range h) Tryz.underlying55 dG ?_ (ha:=by((try simp only[Act.put,Ld,Li,Lk,dF,aY]);(try rfl)));refine sA 6 (dF y) (fun _ h=>aP.range h) Tryz.underlying55 dG ?_ (ha:=by((try simp only[Act.put,Ld,Li,Lk,dF,aY]);(try rfl)));refine aM 2 3 ?_;refine wpAnyH_ready (rs:=[4,7]) IG FE ?_;refine AllReadyH.cons (by simp only[Lt,Ls,Lo];rfl) (fun r c=> ?_) (AllReadyH.cons (by simp only[Lt,Ls,Lo];rfl) (fun r c=> ?_) AllReadyH.nil)
      focus
       go_simp;refine c.out _ _ (m) ?_;clear c r m;refine fun m=>aW ?_;refine aZ 7 fun r c=> ?_;go_simp;refine c.out _ _ ((aP.below d.row K)) ?_;clear c r m;refine fun m=>aW ?_
      rotate_left 1
      focus
       go_simp;refine c.out _ _ ((aP.below d.row K)) ?_;clear c r m;refine fun m=>aW ?_;refine aZ 4 fun r c=> ?_;go_simp;refine c.out _ _ (m) ?_;clear c r m;refine fun m=>aW ?_
      all_goals
       as_aux_lemma =>
        have A:=H (d.oz K);have a6:=H (gU (M:=[y,y]) (Lp w9 (.cells (bL ([y,y]:List bH)).toArray 55)));obtain⟨P,a3,S⟩:=A.st.pa.wire;have a7:=H a3;have a9:=H S;have hlen:P.length=q.wire.length:=JS
        clear a3 S;have aa:=H (show P.length+2<=1000000000000 by rw[hlen];have:=ax.o;omega);clear hlen;have ab:=H (show ∀u∈([y,y]:List bH),bF (w9.alloc (.cells (bL ([y,y]:List bH)).toArray 55)) u.2.1 u.1.s.bl from fun u hu=>by rw[show u=y by simpa using hu];exact A.bl);refine aZ 8 fun r c=> ?_;refine cA Z _ _ Z N _ P IJ a9.o w9.heap.size 0 2 [y,y] IJ a6.o ab.o aa.o A.st.pa.big ?_;intro v4 E G I n;obtain⟨a4,c4,T,-,-⟩:=G.val;obtain⟨n4,U⟩:∃n4,n4=(P++[y,y]).length:=⟨_,Z⟩;rw[<-U]at T;subst T;clear U;have X:=H (A.Eg I);have a5:=H (A.wire _ (P++[y,y]) I G (fun kk J=>by rcases n with n | ⟨k2,n,b4⟩;exact .inl JD;exact .inr JE));have cT:E.cell? ⟨t.B,12,none⟩=some tc.vW:=(Lg (a:=⟨t.B,12,none⟩) X.1).trans (A.st.cell 12 _ Z);have gT:E.frozen? ⟨t.B,12,none⟩=false:=JG
        have a1:aP F y E:=X.2.trans A.row;clear G I n;refine c.out _ _ (a1) ?_;clear c r m;refine fun m=>aW ?_;refine aM 9 10 ?_;refine aZ 11 fun r c=> ?_;go_simp;refine c.out _ _ (a5.row) ?_;clear c r m;refine fun m=>aW ?_;refine ay ?_ _;clear m cT gT a1 cS ag K a0;replace d:=H (a5.Gj (q':=(q.tt i x.1)) (by rw[kJ q i x.1 [q.fl i x.1,q.fl i x.1] al.o,LN,a7.o];simp only[M6,Mp,HY.o];rfl));clear a5 X A a6 a9 aa ab a7;go_wp2_with fail
        go_roundg (gk-1)
        case measure=>omega
        case rel=>exact⟨k+1,_,IY,O,JH⟩
     have H2:=H h2;have d2:(fv==2)=false:=Ll.2 h2;clear h2;by_cases h3:fv=3
     ·subst h3;have al:=H (show q.AA (q.fl i x.1)=[{ q.fl i x.1 with held:=true }] by unfold Pr.AA;rw[L5 (show ¬q.wB=0 from fun e=>by have:=H0.o;exact this (a2.trans e)),L5 (show ¬q.wB=1 from fun e=>by have:=H1.o;exact this (a2.trans e)),L5 (show ¬q.wB=2 from fun e=>by have:=H2.o;exact this (a2.trans e)),L7 a2.symm]);have k2:wc.cell? ⟨F,2,none⟩=some (y.1.held:Y):=d.row.cell 2 _ Z;have l2:=d.row.free 2;have b2:=H (show Dr N t w F (({ q.fl i x.1 with held:=true },x.2.1,x.2.2):bH) tc (q.lg i x.1) (wc.setCell ⟨F,2,none⟩ true)from d.Fw 2 true JF (by rw[HY.o];exact⟨Z,Z⟩));obtain⟨V,d5⟩:∃V:bH,V=(({ q.fl i x.1 with held:=true },x.2.1,x.2.2):bH):=⟨_,Z⟩;rw[<-d5]at b2;have b9:=H d5;clear d5;go_wp2_with fail;clear k2 l2;replace d:=b2;clear b2;refine az (aP F V) (d.row) fun m=>?_;replace d:=H (d.oz (L3 _ _).drew);generalize b3:World.drew _=w9 at d m|-;clear b3;have cS:w9.cell? ⟨t.B,12,none⟩=some tc.vW:=d.st.cell 12 _ Z;have K:=(L3 w9.heap.size w9).alloc (L4 _) (.cells (bL ([V]:List bH)).toArray 55);have a0:t.B<w9.heap.size:=by rw[<-d.st.eB];exact d.st.pa.lt
      have ag:=(Lg (a:=⟨t.B,12,none⟩) (K.block t.B a0)).trans cS;refine aM 0 1 ?_;refine sA 5 (dF V) (fun _ h=>aP.range h) Tryz.underlying55 dG ?_ (ha:=by((try simp only[Act.put,Ld,Li,Lk,dF,aY]);(try rfl)));refine aM 2 3 ?_;refine wpAnyH_ready (rs:=[4,6]) IG FE ?_;refine AllReadyH.cons (by simp only[Lt,Ls,Lo];rfl) (fun r c=> ?_) (AllReadyH.cons (by simp only[Lt,Ls,Lo];rfl) (fun r c=> ?_) AllReadyH.nil)
      focus
       go_simp;refine c.out _ _ (m) ?_;clear c r m;refine fun m=>aW ?_;refine aZ 6 fun r c=> ?_;go_simp;refine c.out _ _ ((aP.below d.row K)) ?_;clear c r m;refine fun m=>aW ?_
      rotate_left 1
      focus
       go_simp;refine c.out _ _ ((aP.below d.row K)) ?_;clear c r m;refine fun m=>aW ?_;refine aZ 4 fun r c=> ?_;go_simp;refine c.out _ _ (m) ?_;clear c r m;refine fun m=>aW ?_
      all_goals
       as_aux_lemma =>
        have A:=H (d.oz K);have a6:=H (gU (M:=[V]) (Lp w9 (.cells (bL ([V]:List bH)).toArray 55)));obtain⟨P,a3,S⟩:=A.st.pa.wire;have a7:=H a3;have a9:=H S;have hlen:P.length=q.wire.length:=JS
        clear a3 S;have aa:=H (show P.length+1<=1000000000000 by rw[hlen];have:=ax.o;omega);clear hlen;have ab:=H (show ∀u∈([V]:List bH),bF (w9.alloc (.cells (bL ([V]:List bH)).toArray 55)) u.2.1 u.1.s.bl from fun u hu=>by rw[show u=V by simpa using hu];exact A.bl);refine aZ 7 fun r c=> ?_;refine cA Z _ _ Z N _ P IJ a9.o w9.heap.size 0 1 [V] IJ a6.o ab.o aa.o A.st.pa.big ?_;intro v4 E G I n;obtain⟨a4,c4,T,-,-⟩:=G.val;obtain⟨n4,U⟩:∃n4,n4=(P++[V]).length:=⟨_,Z⟩;rw[<-U]at T;subst T;clear U;have X:=H (A.Eg I);have a5:=H (A.wire _ (P++[V]) I G (fun kk J=>by rcases n with n | ⟨k2,n,b4⟩;exact .inl JD;exact .inr JE));have cT:E.cell? ⟨t.B,12,none⟩=some tc.vW:=(Lg (a:=⟨t.B,12,none⟩) X.1).trans (A.st.cell 12 _ Z);have gT:E.frozen? ⟨t.B,12,none⟩=false:=JG
        have a1:aP F V E:=X.2.trans A.row;clear G I n;refine c.out _ _ (a1) ?_;clear c r m;refine fun m=>aW ?_;refine aM 8 9 ?_;refine aZ 10 fun r c=> ?_;go_simp;refine c.out _ _ (a5.row) ?_;clear c r m;refine fun m=>aW ?_;refine ay ?_ _;clear m cT gT a1 cS ag K a0;replace d:=H (a5.Gj (q':=(q.tt i x.1)) (by rw[kJ q i x.1 [{ q.fl i x.1 with held:=true }] al.o,LN,a7.o];simp only[M6,Mp,b9.o];rfl));clear a5 X A a6 a9 aa ab a7;go_wp2_with fail
        go_roundg (gk-1)
        case measure=>omega
        case rel=>exact⟨k+1,_,IY,O,JH⟩
     have H3:=H h3;have d3:(fv==3)=false:=Ll.2 h3;clear h3;have al:=H (show q.AA (q.fl i x.1)=[{ q.fl i x.1 with due:=q.now+q.wB-3 }] by unfold Pr.AA;rw[L5 (show ¬q.wB=0 from fun e=>by have:=H0.o;exact this (a2.trans e)),L5 (show ¬q.wB=1 from fun e=>by have:=H1.o;exact this (a2.trans e)),L5 (show ¬q.wB=2 from fun e=>by have:=H2.o;exact this (a2.trans e)),L5 (show ¬q.wB=3 from fun e=>by have:=H3.o;exact this (a2.trans e))]);have k1:wc.cell? ⟨F,1,none⟩=some (y.1.due:Y):=d.row.cell 1 _ Z;have l1:=d.row.free 1;have g2:=d.st.cell 13 q.now Z;have am:=cL.o;have b2:=H (show Dr N t w F (({ q.fl i x.1 with due:=q.now+q.wB-3 },x.2.1,x.2.2):bH) tc (q.lg i x.1) (wc.setCell ⟨F,1,none⟩ (q.now+fv-3:Int))from d.Fw 1 (q.now+fv-3:Int) (by rw[HY.o,a2.o];rfl) (by rw[HY.o];exact⟨Z,Z⟩));obtain⟨V,d5⟩:∃V:bH,V=(({ q.fl i x.1 with due:=q.now+q.wB-3 },x.2.1,x.2.2):bH):=⟨_,Z⟩;rw[<-d5]at b2;have b9:=H d5;clear d5;go_wp2_with fail;clear k1 l1 g2;replace d:=b2;clear b2;refine az (aP F V) (d.row) fun m=>?_;replace d:=H (d.oz (L3 _ _).drew);generalize b3:World.drew _=w9 at d m|-;clear b3;have cS:w9.cell? ⟨t.B,12,none⟩=some tc.vW:=d.st.cell 12 _ Z;have K:=(L3 w9.heap.size w9).alloc (L4 _) (.cells (bL ([V]:List bH)).toArray 55);have a0:t.B<w9.heap.size:=by rw[<-d.st.eB];exact d.st.pa.lt
     have ag:=(Lg (a:=⟨t.B,12,none⟩) (K.block t.B a0)).trans cS;refine aM 0 1 ?_;refine sA 5 (dF V) (fun _ h=>aP.range h) Tryz.underlying55 dG ?_ (ha:=by((try simp only[Act.put,Ld,Li,Lk,dF,aY]);(try rfl)));refine aM 2 3 ?_;refine wpAnyH_ready (rs:=[4,6]) IG FE ?_;refine AllReadyH.cons (by simp only[Lt,Ls,Lo];rfl) (fun r c=> ?_) (AllReadyH.cons (by simp only[Lt,Ls,Lo];rfl) (fun r c=> ?_) AllReadyH.nil)
     focus
      go_simp;refine c.out _ _ (m) ?_;clear c r m;refine fun m=>aW ?_;refine aZ 6 fun r c=> ?_;go_simp;refine c.out _ _ ((aP.below d.row K)) ?_;clear c r m;refine fun m=>aW ?_
     rotate_left 1
     focus
      go_simp;refine c.out _ _ ((aP.below d.row K)) ?_;clear c r m;refine fun m=>aW ?_;refine aZ 4 fun r c=> ?_;go_simp;refine c.out _ _ (m) ?_;clear c r m;refine fun m=>aW ?_
     all_goals
      as_aux_lemma =>
       have A:=H (d.oz K);have a6:=H (gU (M:=[V]) (Lp w9 (.cells (bL ([V]:List bH)).toArray 55)));obtain⟨P,a3,S⟩:=A.st.pa.wire;have a7:=H a3;have a9:=H S;have hlen:P.length=q.wire.length:=JS
       clear a3 S;have aa:=H (show P.length+1<=1000000000000 by rw[hlen];have:=ax.o;omega);clear hlen;have ab:=H (show ∀u∈([V]:List bH),bF (w9.alloc (.cells (bL ([V]:List bH)).toArray 55)) u.2.1 u.1.s.bl from fun u hu=>by rw[show u=V by simpa using hu];exact A.bl);refine aZ 7 fun r c=> ?_;refine cA Z _ _ Z N _ P IJ a9.o w9.heap.size 0 1 [V] IJ a6.o ab.o aa.o A.st.pa.big ?_;intro v4 E G I n;obtain⟨a4,c4,T,-,-⟩:=G.val;obtain⟨n4,U⟩:∃n4,n4=(P++[V]).length:=⟨_,Z⟩;rw[<-U]at T;subst T;clear U;have X:=H (A.Eg I);have a5:=H (A.wire _ (P++[V]) I G (fun kk J=>by rcases n with n | ⟨k2,n,b4⟩;exact .inl JD;exact .inr JE));have cT:E.cell? ⟨t.B,12,none⟩=some tc.vW:=(Lg (a:=⟨t.B,12,none⟩) X.1).trans (A.st.cell 12 _ Z);have gT:E.frozen? ⟨t.B,12,none⟩=false:=JG
       have a1:aP F V E:=X.2.trans A.row;clear G I n;refine c.out _ _ (a1) ?_;clear c r m;refine fun m=>aW ?_;refine aM 8 9 ?_;refine aZ 10 fun r c=> ?_;go_simp;refine c.out _ _ (a5.row) ?_;clear c r m;refine fun m=>aW ?_;refine ay ?_ _;clear m cT gT a1 cS ag K a0;replace d:=H (a5.Gj (q':=(q.tt i x.1)) (by rw[kJ q i x.1 [{ q.fl i x.1 with due:=q.now+q.wB-3 }] al.o,LN,a7.o];simp only[M6,Mp,b9.o];rfl));clear a5 X A a6 a9 aa ab a7;go_wp2_with fail
       go_roundg (gk-1)
       case measure=>omega
       case rel=>exact⟨k+1,_,IY,O,JH⟩
  have g3:k=M.length:=O
  subst g3;rw[LS]at C;go_wp2_with fail
  go_end0
  exact⟨Z,t1,by rw[HR.o];exact C.o⟩
end
end Go.Proofs.YtcmncipikdpnbaaGreatDoor
