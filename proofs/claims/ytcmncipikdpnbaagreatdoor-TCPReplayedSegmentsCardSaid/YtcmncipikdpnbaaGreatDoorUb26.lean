import Derived.Test.YtcmncipikdpnbaaGreatDoorUb19
import Derived.Test.YtcmncipikdpnbaaGreatDoorUb20
namespace Go.Proofs.YtcmncipikdpnbaaGreatDoor
section
open Go.RowKit Go.Shelf
def bI (b:Bool):Int:=if b=true then 1 else 0
abbrev bH := Fl × Option Addr × Nat
def dC (x:bH):List Value:=.int .i64 (bI x.1.dst):: .int .i64 x.1.due:: .bool x.1.held::aX (x.1.s,x.2.1,x.2.2)
def bM (L:List bH):List Value:=L.flatMap dC
theorem jx (A B:List bH):bM (A++B)=bM A++bM B:=MD ..
theorem jy (L:List bH):(bM L).length=L.length*16:=by
 induction L with
 | nil=>rfl
 | cons x L a=>show(dC x++bM L).length=_;rw[Lc,a,LC];show 16+_=_;omega
theorem vR (L:List bH)(i:Nat)(h:i<L.length)(j:Nat)(b:j<16):(bM L)[i*16+j]? =(dC L[i])[j]? :=by
 induction L generalizing i with
 | nil=>simp at h
 | cons x L a =>
  show(dC x++bM L)[i*16+j]? =_
  cases i with
  | zero=>rw[Mo (by show 0*16+j<16;omega)];simp
  | succ i =>
   rw[Mk (by show 16<=_;omega)];rw[show(i+1)*16+j-(dC x).length=i*16+j by show _-16=_;omega]
   simpa using a i IY
theorem oF (L:List bH):∀u∈bM L,u.oneCell'=true:=by
 intro u a;obtain⟨x,_,h⟩:=List.mem_flatMap.1 a
 simp[dC,aX]at h
 rcases h with rfl | rfl | rfl | rfl | rfl | rfl | rfl | rfl | rfl | rfl | rfl | rfl | rfl | rfl | rfl | rfl <;> rfl
theorem sK:(Tryz.prog.info? 55).map (fun i=>(i.zero,i.size,i.bytes))=some (some (.agg #[(0:Int),(0:Int),false,(0:Int),(0:Int),(0:Int),(0:Int),false,false,false,false,(0:Int),(0:Int),false,.slice none 0 0,.string ⟨#[]⟩]),16,128):=by kernel_rfl
def bJ (w:World)(base:Nat)(v:Value)(L:List bH):Prop:=w.ownsRow base 55 16 v L.length (bM L)/\∀x∈L,bE w x.2.1 x.1.s.bl
def qr (w:World)(base:Nat)(v:Value)(L:List Fl):Prop:=∃M:List bH,M.map (·.1)=L/\bJ w base v M
theorem bJ.nil (w:World)(base:Nat):bJ w base (.slice none 0 0) []:=⟨Ny _ _ _ _,fun _ h=>by simp at h⟩
theorem qr.nil (w:World)(base:Nat):qr w base (.slice none 0 0) []:=⟨[],Z,bJ.nil w base⟩
theorem bJ.lt {w:World}{base:Nat}{v:Value}{L:List bH}(h:bJ w base v L):∀k,v.ownBlock=some k->base<=k/\k<w.heap.size:=MH h.1
theorem bJ.ty {w:World}{base:Nat}{v:Value}{L:List bH}(h:bJ w base v L):∀k,v.ownBlock=some k->dW w k 55:=by
 rcases h.1.2 with⟨rfl,f⟩ | ⟨g,a,b,rfl,c,d,r⟩
 ·intro k e;cases e
 intro k e;cases e;exact⟨_,_,d⟩
theorem bJ.keep {w w':World}{base:Nat}{v:Value}{L:List bH}(h:bJ w base v L)(hs:w.heap.size<=w'.heap.size)(d:aG w w')(e:∀k,v.ownBlock=some k->w'.heap[k]? =w.heap[k]?):bJ w' base v L:=by
 refine⟨⟨h.1.1,?_⟩,fun x f=>(h.2 x f).keep hs d⟩
 rcases h.1.2 with i | ⟨g,a,b,rfl,c,j,r⟩
 ·exact .inl i
 exact .inr ⟨g,a,b,Z,c,(e g Z).trans j,r⟩
theorem bJ.below {w w':World}{base:Nat}{v:Value}{L:List bH}(h:bJ w base v L)(a:Below w.heap.size w w'):bJ w' base v L :=
 h.keep a.size (.below a) (fun k e=>a.block k (h.lt k e).2)
theorem bJ.mono {w:World}{base a:Nat}{v:Value}{L:List bH}(h:bJ w base v L)(e:a<=base):bJ w a v L:=by
 refine⟨⟨h.1.1,?_⟩,h.2⟩
 rcases h.1.2 with h | ⟨g,b,c,f,d,r⟩
 ·exact .inl h
 exact .inr ⟨g,b,c,f,La e d,r⟩
theorem bJ.xs {f:Fp}{c:Cn}{w w':World}{base:Nat}{v:Value}{L:List bH}(h:bJ w base v L)(a:kn f c w)(b:ot f w w'):bJ w' base v L :=
 h.keep b.size (a.ys b) (fun k e=>b.block k (h.lt k e).2 ((h.ty k e).ne a.Cx D) ((h.ty k e).ne a.Dh D) ((h.ty k e).ne a.Dm D) ((h.ty k e).ne a.Dn D) ((h.ty k e).ne a.Dp D) ((h.ty k e).ne a.Dq D))
theorem bJ.val {w:World}{base:Nat}{v:Value}{L:List bH}(h:bJ w base v L):∃a cap,v= .slice a L.length cap/\L.length<=cap/\∀b,a=some b->b=⟨b.block,0,none⟩:=by
 rcases h.1.2 with⟨rfl,f⟩ | ⟨g,cap,i,j,k,n,c,l,m,d⟩
 ·exact⟨none,0,by rw[f],O,fun _ e=>by cases e⟩
 exact⟨_,cap,j,c,fun _ e=>by cases e;rfl⟩
theorem bJ.cells {w:World}{base:Nat}{v:Value}{L:List bH}(h:bJ w base v L)(f:0<L.length) :
  ∃g cap,v= .slice (some ⟨g,0,none⟩) L.length cap/\base<=g/\g<w.heap.size/\L.length<=cap/\∀j u,(bM L)[j]? =some u->w.cell? ((⟨g,0,none⟩:Addr).add j)=some u:=by
 rcases h.1.2 with⟨rfl,i⟩ | ⟨g,cap,c,rfl,a,d,b,r⟩
 ·omega
 exact⟨g,cap,Z,a,(L8.1 d).1,b,fun j u e=>Nb h.1 (g:=g) Z j u e⟩
theorem bJ.ys {w w':World}{base:Nat}{v:Value}{L:List bH}(h:bJ w base v L)(c:w.grownBy w' v.ownBlock):aG w w':=fun b a =>
 c.block b a.lt (fun e=>(a.ne (h.ty b e.symm) D) Z)
theorem bJ.G5 {w w':World}{base:Nat}{v:Value}{L:List bH}(h:bJ w base v L)(c:w.grownBy w' v.ownBlock){b:Nat}{t:TypeId}(a:dW w b t)(d:t≠55):w'.heap[b]? =w.heap[b]? :=
 c.block b a.lt (fun e=>(a.ne (h.ty b e.symm) d) Z)
theorem cd (w:World){f:Array Oper}{rest:List Oper}{o:Oper}{a:Act}{Q:Exit->Act->World->Prop}(i:o.guard=none)(s x:Operand)
  (z:o.op= .call { callee:=.builtin .append,args:= #[s,x],argTypes:= #[36,36] })(base:Nat)
  (v:Value)(L:List bH)(hs:a.eval s=v)(d:bJ w base v L)
  (b off c:Nat)(M:List bH)(A:a.eval x= .slice (some ⟨b,off,none⟩) M.length c)(B:∀j u,(bM M)[j]? =some u->w.cell? ((⟨b,off,none⟩:Addr).add j)=some u)(C:∀y∈M,bE w y.2.1 y.1.s.bl)(S:L.length+M.length<=1000000000000)(e:base<=w.heap.size)
  (h:∀v' w',bJ w' base v' (L++M)->w.grownBy w' v.ownBlock->(v'.ownBlock=v.ownBlock\/∃k,v'.ownBlock=some k/\w.heap.size<=k)->wpList Tryz.prog f Q rest (a.put o.dst v') w'):wpList Tryz.prog f Q (o::rest) a w:=by
 obtain⟨E,hi,l,m,n⟩:=MJ sK
 obtain⟨v',w',G,h2,g,I⟩:=bY (P:=Tryz.prog) w base 36 o.type 55 E _ 16 128 Tryz.underlying36 hi l m n Z (by decide) v L.length (bM L) d.1 ⟨b,off,none⟩ M.length c (bM M) (jy M)
  B (oF M) (by unfold maxLen;omega) (by omega) e
 refine NG i fun K J=> ?_;unfold Oper.wp execOp;simp only[z,resolve,invoke,builtin,MX,MW,MB,MI,M9,Ms,hs,A,G];have r:=d.ys g;refine J _ _ (h v' w' ⟨?_,fun y hy=> ?_⟩ g I)
 ·rw[Lc,jx];exact h2
 rcases LH.1 hy with hy | hy
 ·exact(d.2 y hy).keep g.size r
 exact(C y hy).keep g.size r
theorem bw {w:World}{f:Array Oper}{o:Oper}{a:Act}{K:Act->World->Prop}{Q:Exit->Act->World->Prop}{E:Prop}(i:o.guard=none)(s x:Operand)
  (z:o.op= .call { callee:=.builtin .append,args:= #[s,x],argTypes:= #[36,36] })(base:Nat)
  (v:Value)(L:List bH)(hs:a.eval s=v)(d:bJ w base v L)(b off c:Nat)(M:List bH)(A:a.eval x= .slice (some ⟨b,off,none⟩) M.length c)
  (B:∀j u,(bM M)[j]? =some u->w.cell? ((⟨b,off,none⟩:Addr).add j)=some u)(C:∀y∈M,bE w y.2.1 y.1.s.bl)(S:L.length+M.length<=1000000000000)(e:base<=w.heap.size)
  (h:∀v' w',bJ w' base v' (L++M)->w.grownBy w' v.ownBlock->(v'.ownBlock=v.ownBlock\/∃k,v'.ownBlock=some k/\w.heap.size<=k)->K (a.put o.dst v') w') :
  if Region.wanted o (yielded f a.tmps)=true then Oper.wp Tryz.prog o a w K Q else E:=by
 have hw:Region.wanted o (yielded f a.tmps)=true:=by simp[Region.wanted,i]
 rw[L9 hw];obtain⟨G,hi,l,m,n⟩:=MJ sK
 obtain⟨v',w',I,h2,g,J⟩:=bY (P:=Tryz.prog) w base 36 o.type 55 G _ 16 128 Tryz.underlying36 hi l m n Z (by decide) v L.length (bM L) d.1 ⟨b,off,none⟩ M.length c (bM M) (jy M)
  B (oF M) (by unfold maxLen;omega) (by omega) e
 unfold Oper.wp execOp;simp only[z,resolve,invoke,builtin,MX,MW,MB,MI,M9,Ms,hs,A,I];have r:=d.ys g;refine h v' w' ⟨?_,fun y hy=> ?_⟩ g J
 ·rw[Lc,jx];exact h2
 rcases LH.1 hy with hy | hy
 ·exact(d.2 y hy).keep g.size r
 exact(C y hy).keep g.size r
def aP (B:Nat)(x:bH)(W:World):Prop:=W.heap[B]? =some (.cells (dC x).toArray 55 (0,0))
theorem aP.lt {B:Nat}{x:bH}{W:World}(h:aP B x W):B<W.heap.size:=(L8.1 h).1
theorem aP.ty {B:Nat}{x:bH}{W:World}(h:aP B x W):dW W B 55:=⟨_,_,h⟩
theorem aP.below {B:Nat}{x:bH}{W W':World}(h:aP B x W)(a:Below W.heap.size W W'):aP B x W':=(a.block B h.lt).trans h
theorem aP.cell {B:Nat}{x:bH}{W:World}(h:aP B x W)(i:Nat)(v:Value)(a:(dC x)[i]? =some v):W.cell? ⟨B,i,none⟩=some v:=by
 rw[Lq _ _ _ _ _ _ h]
 simpa using a
theorem aP.set {B:Nat}{x y:bH}{W:World}(h:aP B x W)(i:Nat)(v:Value)(he:(dC x).toArray.setIfInBounds i v=(dC y).toArray):aP B y (W.setCell ⟨B,i,none⟩ v):=by
 unfold aP;rw[LK _ _ _ _ _ _ h,he]
theorem aP.new (w:World)(x:bH):aP w.heap.size x (w.alloc (.cells (dC x).toArray 55)):=Ls _ _
theorem gL {w:World}{b:Nat}{t:TypeId}{a:Nat×Nat}{M:List bH}(h:w.heap[b]? =some (.cells (bM M).toArray t a)):∀j u,(bM M)[j]? =some u->w.cell? ((⟨b,0,none⟩:Addr).add j)=some u:=by
 intro j u c;rw[Mw,MQ,Lq _ _ _ _ _ _ h]
 simpa using c
end
section
open Go.RowKit Go.Shelf
structure Ft where
 B:Nat
 fa:Fp
 fb:Fp
 vW:Value
 vL:Value
 aF:Option Addr
 cF:Nat
def Ft.f (t:Ft)(i:Bool):Fp:=match i with | false=>t.fa | true=>t.fb
def Ft.FM (t:Ft)(i:Bool)(f:Fp):Ft:=match i with | false=>{ t with fa:=f } | true=>{ t with fb:=f }
def Fp.has (f:Fp)(k:Nat):Prop:=k=f.C\/k=f.S\/k=f.T\/k=f.G\/k=f.X\/k=f.R
def Ft.D (t:Ft)(k:Nat):Prop:=k=t.B\/t.fa.has k\/t.fb.has k\/t.vW.ownBlock=some k\/t.vL.ownBlock=some k
def dg (t:Ft)(p:Pr):Array Value:= #[
 .pointer (some ⟨t.fa.C,0,none⟩),.string ⟨p.a.all.toArray⟩,p.a.sent,.string ⟨p.a.got.toArray⟩,p.a.fin,p.a.closed,
 .pointer (some ⟨t.fb.C,0,none⟩),.string ⟨p.b.all.toArray⟩,p.b.sent,.string ⟨p.b.got.toArray⟩,p.b.fin,p.b.closed,
 t.vW,p.now,.slice t.aF p.kq.length t.cF,(p.many:Int),t.vL]
structure D8 (N:Nat)(a:Option Addr)(l:List Int)(w:World):Prop where
 small:l.length<=1000
 Cq:∀x∈l,aI x
 cells:0<l.length->∃b o,a=some ⟨b,o,none⟩/\b<N/\∀i,(hi:i<l.length)->w.cell? ⟨b,o+i,none⟩=some (l[i]:Y)
structure C9 (N:Nat)(t:Ft)(p:Pr)(w:World):Prop where
 blk:w.heap[t.B]? =some (.cells (dg t p) 38 (0,0))
 a:kn t.fa p.a.c w
 b:kn t.fb p.b.c w
 EC:kn.Hz t.fa t.fb
 wire:qr w N t.vW p.wire
 log:qr w N t.vL p.log
 ne:∀k,t.vW.ownBlock=some k->t.vL.ownBlock≠some k
 Gj:D8 N t.aF p.kq w
 lo:∀k,t.D k->N<=k
 top:dy<=N
structure DV (D0:Nat->Prop)(w w':World):Prop where
 os:w'.os=w.os
 tape:w'.tape=w.tape
 output:w'.output=w.output
 size:w.heap.size<=w'.heap.size
 block:∀k,k<w.heap.size->¬D0 k->w'.heap[k]? =w.heap[k]?
 sp:aG w w'
theorem aG.trans {a b c:World}(h:aG a b)(k:aG b c):aG a c:=fun x d=>(k x (d.of (h x d))).trans (h x d)
theorem DV.refl (D0:Nat->Prop)(w:World):DV D0 w w:=⟨Z,Z,Z,L6 _,fun _ _ _=>rfl,.refl w⟩
theorem DV.trans {D0 E:Nat->Prop}{a b c:World}(h:DV D0 a b)(k:DV E b c)(f:∀x,E x->D0 x\/a.heap.size<=x):DV D0 a c :=
 ⟨k.os.trans h.os,k.tape.trans h.tape,k.output.trans h.output,La h.size k.size,fun x d e=>(k.block x (Ld d h.size) (fun he=>by rcases f x he with h1 | h1 <;> first | exact e h1 | omega)).trans (h.block x d e),h.sp.trans k.sp⟩
theorem DV.below {D0:Nat->Prop}{w w':World}{N:Nat}(h:DV D0 w w')(c:N<=w.heap.size)(a:∀k,D0 k->N<=k):Below N w w' :=
 ⟨h.os,h.tape,h.output,h.size,fun k d=>h.block k O (fun b=>by have:=a k b;omega)⟩
structure t7 (N:Nat)(t:Ft)(w:World)(t':Ft)(p':Pr)(w':World):Prop where
 pa:C9 N t' p' w'
 fr:DV t.D w w'
 sub:∀k,t'.D k->t.D k\/w.heap.size<=k
 eB:t'.B=t.B
 eC:t'.fa.C=t.fa.C/\t'.fb.C=t.fb.C/\t'.aF=t.aF
theorem t7.start {N:Nat}{t:Ft}{p:Pr}{w:World}(h:C9 N t p w):t7 N t w t p w:=⟨h,.refl _ _,fun _ h=>.inl h,Z,⟨Z,Z,Z⟩⟩
theorem t7.trans {N:Nat}{t u v:Ft}{p q:Pr}{a b c:World}(h:t7 N t a u p b)(k:t7 N u b v q c):t7 N t a v q c :=
 ⟨k.pa,h.fr.trans k.fr h.sub,fun x d=>by
  rcases k.sub x d with h1 | h1
  ·exact h.sub x h1
  ·exact .inr (La h.fr.size h1),k.eB.trans h.eB,⟨k.eC.1.trans h.eC.1,k.eC.2.1.trans h.eC.2.1,k.eC.2.2.trans h.eC.2.2⟩⟩
def Ao (N:Nat)(t:Ft)(w:World)(p':Pr)(w':World):Prop:=∃a,t7 N t w a p' w'
namespace C9
variable {N : Nat} {t : Ft} {p : Pr} {w w' : World}
theorem GB (h:C9 N t p w):dW w t.B 38:=⟨_,_,h.blk⟩
theorem cell (h:C9 N t p w)(i:Nat)(v:Value)(a:(dg t p)[i]? =some v):w.cell? ⟨t.B,i,none⟩=some v:=by rw[Lq _ _ _ _ _ _ h.blk];exact a
theorem free (h:C9 N t p w)(i:Nat):w.frozen? ⟨t.B,i,none⟩=false:=LW _ _ _ _ _ h.blk
theorem lt (h:C9 N t p w):t.B<w.heap.size:=h.GB.lt
theorem Ho (h:C9 N t p w):N<=t.B:=h.lo _ (.inl Z)
theorem big (h:C9 N t p w):N<=w.heap.size:=La h.Ho (Nat.le_of_lt h.lt)
theorem Hp (h:C9 N t p w):∀k,t.vW.ownBlock=some k->k<w.heap.size/\dW w k 55:=by
 obtain⟨M,-,a⟩:=h.wire;exact fun k e=>⟨(a.lt k e).2,a.ty k e⟩
theorem Hq (h:C9 N t p w):∀k,t.vL.ownBlock=some k->k<w.heap.size/\dW w k 55:=by
 obtain⟨M,-,a⟩:=h.log;exact fun k e=>⟨(a.lt k e).2,a.ty k e⟩
theorem GC (h:C9 N t p w)(k:Nat)(c:t.D k):k<w.heap.size/\¬dW w k 149:=by
 rcases c with rfl | c | c | c | c
 ·exact⟨h.lt,fun e=>e.ne h.GB D Z⟩
 ·rcases c with rfl | rfl | rfl | rfl | rfl | rfl
  ·exact⟨h.a.Cx.lt,fun e=>e.ne h.a.Cx D Z⟩
  ·exact⟨h.a.Dh.lt,fun e=>e.ne h.a.Dh D Z⟩
  ·exact⟨h.a.Dm.lt,fun e=>e.ne h.a.Dm D Z⟩
  ·exact⟨h.a.Dn.lt,fun e=>e.ne h.a.Dn D Z⟩
  ·exact⟨h.a.Dp.lt,fun e=>e.ne h.a.Dp D Z⟩
  exact⟨h.a.Dq.lt,fun e=>e.ne h.a.Dq D Z⟩
 ·rcases c with rfl | rfl | rfl | rfl | rfl | rfl
  ·exact⟨h.b.Cx.lt,fun e=>e.ne h.b.Cx D Z⟩
  ·exact⟨h.b.Dh.lt,fun e=>e.ne h.b.Dh D Z⟩
  ·exact⟨h.b.Dm.lt,fun e=>e.ne h.b.Dm D Z⟩
  ·exact⟨h.b.Dn.lt,fun e=>e.ne h.b.Dn D Z⟩
  ·exact⟨h.b.Dp.lt,fun e=>e.ne h.b.Dp D Z⟩
  exact⟨h.b.Dq.lt,fun e=>e.ne h.b.Dq D Z⟩
 ·exact⟨(h.Hp k c).1,fun e=>e.ne (h.Hp k c).2 D Z⟩
 exact⟨(h.Hq k c).1,fun e=>e.ne (h.Hq k c).2 D Z⟩
theorem DN {a:Option Addr}{l:List Int}(h:D8 N a l w)(d:∀k,k<N->w'.heap[k]? =w.heap[k]?):D8 N a l w':=by
 refine⟨h.small,h.Cq,fun f=> ?_⟩;obtain⟨b,o,e,c,g⟩:=h.cells f;exact⟨b,o,e,c,fun i hi=>(Li (a:=⟨b,_,none⟩) (d b c)).trans (g i hi)⟩
theorem keep (h:C9 N t p w)(m:w'.os=w.os)(n:w'.tape=w.tape)(o:w'.output=w.output)(hs:w.heap.size<=w'.heap.size)(j:∀k,k<N->w'.heap[k]? =w.heap[k]?)(g:∀k,t.D k->w'.heap[k]? =w.heap[k]?)(c:aG w w'):C9 N t p w':=by
 have l:Below dy w w':=⟨m,n,o,hs,fun k c=>j k (Ld c h.top)⟩;have d:∀k,t.fa.has k->w'.heap[k]? =w.heap[k]? :=fun k c=>g k (.inr (.inl c));have f:∀k,t.fb.has k->w'.heap[k]? =w.heap[k]? :=fun k c=>g k (.inr (.inr (.inl c)));refine⟨(g _ (.inl Z)).trans h.blk,?_,?_,h.EC,?_,?_,h.ne,DN h.Gj j,h.lo,h.top⟩
 ·exact h.a.keep l hs c (d _ (.inl Z)) (d _ (.inr (.inl Z))) (d _ (.inr (.inr (.inl Z)))) (d _ (.inr (.inr (.inr (.inl Z))))) (d _ (.inr (.inr (.inr (.inr (.inl Z)))))) (d _ (.inr (.inr (.inr (.inr (.inr Z))))))
 ·exact h.b.keep l hs c (f _ (.inl Z)) (f _ (.inr (.inl Z))) (f _ (.inr (.inr (.inl Z)))) (f _ (.inr (.inr (.inr (.inl Z))))) (f _ (.inr (.inr (.inr (.inr (.inl Z)))))) (f _ (.inr (.inr (.inr (.inr (.inr Z))))))
 ·obtain⟨M,e,i⟩:=h.wire;exact⟨M,e,i.keep hs c (fun k c=>g k (.inr (.inr (.inr (.inl c)))))⟩
 obtain⟨M,e,i⟩:=h.log;exact⟨M,e,i.keep hs c (fun k c=>g k (.inr (.inr (.inr (.inr c)))))⟩
theorem qn (h:C9 N t p w)(a:Below w.heap.size w w'):t7 N t w t p w' :=
 ⟨h.keep a.os a.tape a.output a.size (fun k b=>a.block k (Ld b h.big)) (fun k b=>a.block k (h.GC k b).1) (.below a),⟨a.os,a.tape,a.output,a.size,fun k b _=>a.block k b,.below a⟩,fun _ h=>.inl h,Z,⟨Z,Z,Z⟩⟩
theorem alloc (h:C9 N t p w)(o:Obj):t7 N t w t p (w.alloc o):=h.qn ((L5 _ w).alloc (L6 _) o)
theorem drew (h:C9 N t p w):t7 N t w t p w.drew:=h.qn (L5 _ w).drew
theorem apart {D0:Nat->Prop}(h:C9 N t p w)(a:DV D0 w w')(c:∀k,D0 k->N<=k/\¬t.D k):C9 N t p w' :=
 h.keep a.os a.tape a.output a.size (fun k b=>a.block k (Ld b h.big) (fun e=>by have:=(c k e).1;omega)) (fun k b=>a.block k (h.GC k b).1 (fun e=>(c k e).2 b)) a.sp
theorem set (h:C9 N t p w)(i:Nat)(v:Value)(q:Pr)(he:(dg t p).setIfInBounds i v=dg t q)(m:q.a.c=p.a.c)(n:q.b.c=p.b.c)(o:q.wire=p.wire)(r:q.log=p.log)(s:q.kq=p.kq):t7 N t w t q (w.setCell ⟨t.B,i,none⟩ v):=by
 have d:nF t.B w (w.setCell ⟨t.B,i,none⟩ v):=(nF.refl _ _).setCell i v;have j:=h.GB;have l:dy<=t.B:=La h.top h.Ho;have f:aG w (w.setCell ⟨t.B,i,none⟩ v):=.Dj d j D;refine⟨⟨by rw[LK _ _ _ _ _ _ h.blk,he],?_,?_,h.EC,?_,?_,h.ne,?_,h.lo,h.top⟩,⟨d.os,d.tape,d.output,d.size,fun k f u=>d.block k f (fun e=>u (.inl e)),f⟩,fun _ h=>.inl h,Z,⟨Z,Z,Z⟩⟩
 ·rw[m];exact h.a.beside j d l D D D D D D D
 ·rw[n];exact h.b.beside j d l D D D D D D D
 ·rw[o];obtain⟨M,e,g⟩:=h.wire;exact⟨M,e,g.keep d.size f (fun k e=>d.block k (g.lt k e).2 ((g.ty k e).ne j D))⟩
 ·rw[r];obtain⟨M,e,g⟩:=h.log;exact⟨M,e,g.keep d.size f (fun k e=>d.block k (g.lt k e).2 ((g.ty k e).ne j D))⟩
 rw[s];exact DN h.Gj (fun k f=>d.block k (Ld f h.big) (by have:=h.Ho;omega))
theorem FQ (h:C9 N t p w)(i:Bool)(g:Nat)(c:Cn)(J:kn { t.f i with G:=g } c w')(j:ot (t.f i) w w')(l:g=(t.f i).G\/w.heap.size<=g):t7 N t w (t.FM i { t.f i with G:=g }) (p.v6 i c) w':=by
 have m:=h.big
 have n:∀k,¬(t.f i).has k->k<w.heap.size->w'.heap[k]? =w.heap[k]? :=by
  intro k d I;unfold Fp.has at d;exact j.block k I (by omega) (by omega) (by omega) (by omega) (by omega) (by omega)
 have K:∀k,(t.f i).has k->t.D k:=by
  intro k d
  cases i
  ·exact .inr (.inl d)
  exact .inr (.inr (.inl d))
 have P:∀k,k<N->w'.heap[k]? =w.heap[k]? :=fun k d=>n k (fun e=>by have:=h.lo k (K k e);omega) (Ld d m)
 have r:kn (t.f i) (p.sd i).c w:=by
  cases i
  ·exact h.a
  exact h.b
 have s:aG w w':=r.ys j
 have z:∀k u,dW w k u->u≠85->u≠135->u≠142->u≠132->u≠120->u≠5->w'.heap[k]? =w.heap[k]? :=fun k u d h1 h2 h3 h4 h5 h6 =>
  j.block k d.lt (d.ne r.Cx h1) (d.ne r.Dh h2) (d.ne r.Dm h3) (d.ne r.Dn h4) (d.ne r.Dp h5) (d.ne r.Dq h6)
 have U:=z _ _ h.GB (by decide) (by decide) (by decide) (by decide) (by decide) (by decide)
 have hW:qr w' N t.vW p.wire:=by
  obtain⟨M,e,A⟩:=h.wire;exact⟨M,e,A.keep j.size s (fun k e=>z _ _ (A.ty k e) (by decide) (by decide) (by decide) (by decide) (by decide) (by decide))⟩
 have V:qr w' N t.vL p.log:=by
  obtain⟨M,e,A⟩:=h.log;exact⟨M,e,A.keep j.size s (fun k e=>z _ _ (A.ty k e) (by decide) (by decide) (by decide) (by decide) (by decide) (by decide))⟩
 have a5:DV t.D w w':=⟨j.os,j.tape,j.output,j.size,fun k d hd=>n k (fun e=>hd (K k e)) d,s⟩
 have o:∀k,(t.FM i { t.f i with G:=g }).D k->t.D k\/w.heap.size<=k:=by
  intro k d
  have B:∀f:Fp,(g=f.G\/w.heap.size<=g)->({ f with G:=g }:Fp).has k->f.has k\/w.heap.size<=k:=by
   intro f l d;unfold Fp.has at d|-;dsimp only at d;omega
  cases i
  ·rcases d with d | d | d | d | d
   ·exact .inl (.inl d)
   ·exact(B _ l d).imp (fun h=>.inr (.inl h)) id
   ·exact .inl (.inr (.inr (.inl d)))
   ·exact .inl (.inr (.inr (.inr (.inl d))))
   exact .inl (.inr (.inr (.inr (.inr d))))
  rcases d with d | d | d | d | d
  ·exact .inl (.inl d)
  ·exact .inl (.inr (.inl d))
  ·exact(B _ l d).imp (fun h=>.inr (.inr (.inl h))) id
  ·exact .inl (.inr (.inr (.inr (.inl d))))
  exact .inl (.inr (.inr (.inr (.inr d))))
 have E:∀k,(t.FM i { t.f i with G:=g }).D k->N<=k:=fun k d=>by
  rcases o k d with h1 | h1
  ·exact h.lo k h1
  exact La m h1
 refine⟨?_,a5,o,by cases i <;> rfl,by cases i <;> exact⟨Z,Z,Z⟩⟩
 cases i
 ·refine⟨U.trans h.blk,J,h.b.across h.a ⟨h.EC.C.symm,h.EC.S.symm,h.EC.T.symm,h.EC.G.symm,h.EC.X.symm,h.EC.R.symm⟩ j,⟨h.EC.C,h.EC.S,h.EC.T,?_,h.EC.X,h.EC.R⟩,hW,V,h.ne,DN h.Gj P,E,h.top⟩;have:=h.b.Dn.lt
  rcases l with l | l
  ·exact fun e=>h.EC.G (l.symm.trans e)
  exact fun e=>by have:g=t.fb.G:=e;omega
 refine⟨U.trans h.blk,h.a.across h.b h.EC j,J,⟨h.EC.C,h.EC.S,h.EC.T,?_,h.EC.X,h.EC.R⟩,hW,V,h.ne,DN h.Gj P,E,h.top⟩;have:=h.a.Dn.lt
 rcases l with l | l
 ·exact fun e=>h.EC.G (e.trans l)
 exact fun e=>by have:t.fa.G=g:=e;omega
theorem GY (h:C9 N t p w)(v:Value)(L:List bH)(n:w.grownBy w' t.vL.ownBlock)(z:bJ w' N v L)(o:∀k,v.ownBlock=some k->t.vL.ownBlock=some k\/w.heap.size<=k):t7 N t w { t with vL:=v } { p with log:=L.map (·.1) } (w'.setCell ⟨t.B,16,none⟩ v):=by
 have r:=h.GB;have j:=h.big;obtain⟨S,T,G⟩:=h.log;have A:w'.heap[t.B]? =w.heap[t.B]? :=G.G5 n r D;have l:nF t.B w' (w'.setCell ⟨t.B,16,none⟩ v):=(nF.refl _ _).setCell 16 v;have f:w.heap.size<=(w'.setCell ⟨t.B,16,none⟩ v).heap.size:=La n.size l.size;have g:∀k,k<w.heap.size->k≠t.B->t.vL.ownBlock≠some k->(w'.setCell ⟨t.B,16,none⟩ v).heap[k]? =w.heap[k]? :=fun k h1 h2 K=>(l.block k (Ld h1 n.size) h2).trans (n.block k h1 (fun e=>K e.symm));have C:∀k,t.vL.ownBlock=some k->N<=k:=fun k e=>h.lo k (.inr (.inr (.inr (.inr e))));have I:∀k,k<N->(w'.setCell ⟨t.B,16,none⟩ v).heap[k]? =w.heap[k]? :=fun k d=>g k (Ld d j) (by have:=h.Ho;omega) (fun e=>by have:=C k e;omega);have c:∀k u,dW w k u->u≠38->u≠55->(w'.setCell ⟨t.B,16,none⟩ v).heap[k]? =w.heap[k]? :=fun k u d h1 h2=>g k d.lt (d.ne r h1) (fun e=>d.ne (G.ty k e) h2 Z);have i:aG w (w'.setCell ⟨t.B,16,none⟩ v):=fun b o=>c b _ o D D;have s:Below dy w (w'.setCell ⟨t.B,16,none⟩ v):=⟨l.os.trans n.os,l.tape.trans n.tape,l.output.trans n.output,f,fun k d=>I k (Ld d h.top)⟩
 have m:∀k,Ft.D { t with vL:=v } k->t.D k\/w.heap.size<=k:=by
  intro k d
  rcases d with d | d | d | d | d
  ·exact .inl (.inl d)
  ·exact .inl (.inr (.inl d))
  ·exact .inl (.inr (.inr (.inl d)))
  ·exact .inl (.inr (.inr (.inr (.inl d))))
  exact(o k d).imp (fun e=>.inr (.inr (.inr (.inr e)))) id
 refine⟨⟨?_,?_,?_,h.EC,?_,?_,?_,DN h.Gj I,fun k d=> ?_,h.top⟩,⟨s.os,s.tape,s.output,f,fun k d J=>g k d (fun e=>J (.inl e)) (fun e=>J (.inr (.inr (.inr (.inr e))))),i⟩,m,Z,⟨Z,Z,Z⟩⟩
 ·rw[LK _ _ _ _ _ _ (A.trans h.blk)];rfl
 ·exact h.a.keep s f i (c _ _ h.a.Cx D D) (c _ _ h.a.Dh D D) (c _ _ h.a.Dm D D) (c _ _ h.a.Dn D D) (c _ _ h.a.Dp D D) (c _ _ h.a.Dq D D)
 ·exact h.b.keep s f i (c _ _ h.b.Cx D D) (c _ _ h.b.Dh D D) (c _ _ h.b.Dm D D) (c _ _ h.b.Dn D D) (c _ _ h.b.Dp D D) (c _ _ h.b.Dq D D)
 ·obtain⟨M,e,E⟩:=h.wire;exact⟨M,e,E.keep f i (fun k e=>g k (E.lt k e).2 ((E.ty k e).ne r D) (h.ne k e))⟩
 ·exact⟨L,Z,z.keep l.size (fun b o=>l.block b o.lt (o.ne (r.of A) D)) (fun k e=>l.block k (z.lt k e).2 ((z.ty k e).ne (r.of A) D))⟩
 ·intro k e P
  rcases o k P with h1 | h1
  ·exact h.ne k e h1
  have:=(h.Hp k e).1;omega
 rcases m k d with h1 | h1
 ·exact h.lo k h1
 exact La j h1
theorem setW (h:C9 N t p w)(v:Value)(L:List bH)(n:w.grownBy w' t.vW.ownBlock)(A:bJ w' N v L)(o:∀k,v.ownBlock=some k->t.vW.ownBlock=some k\/w.heap.size<=k):t7 N t w { t with vW:=v } { p with wire:=L.map (·.1) } (w'.setCell ⟨t.B,12,none⟩ v):=by
 have r:=h.GB;have j:=h.big;obtain⟨S,T,I⟩:=h.wire;have C:w'.heap[t.B]? =w.heap[t.B]? :=I.G5 n r D;have l:nF t.B w' (w'.setCell ⟨t.B,12,none⟩ v):=(nF.refl _ _).setCell 12 v;have f:w.heap.size<=(w'.setCell ⟨t.B,12,none⟩ v).heap.size:=La n.size l.size;have g:∀k,k<w.heap.size->k≠t.B->t.vW.ownBlock≠some k->(w'.setCell ⟨t.B,12,none⟩ v).heap[k]? =w.heap[k]? :=fun k h1 h2 P=>(l.block k (Ld h1 n.size) h2).trans (n.block k h1 (fun e=>P e.symm));have E:∀k,t.vW.ownBlock=some k->N<=k:=fun k e=>h.lo k (.inr (.inr (.inr (.inl e))));have J:∀k,k<N->(w'.setCell ⟨t.B,12,none⟩ v).heap[k]? =w.heap[k]? :=fun k d=>g k (Ld d j) (by have:=h.Ho;omega) (fun e=>by have:=E k e;omega);have c:∀k u,dW w k u->u≠38->u≠55->(w'.setCell ⟨t.B,12,none⟩ v).heap[k]? =w.heap[k]? :=fun k u d h1 h2=>g k d.lt (d.ne r h1) (fun e=>d.ne (I.ty k e) h2 Z);have i:aG w (w'.setCell ⟨t.B,12,none⟩ v):=fun b o=>c b _ o D D;have s:Below dy w (w'.setCell ⟨t.B,12,none⟩ v):=⟨l.os.trans n.os,l.tape.trans n.tape,l.output.trans n.output,f,fun k d=>J k (Ld d h.top)⟩
 have m:∀k,Ft.D { t with vW:=v } k->t.D k\/w.heap.size<=k:=by
  intro k d
  rcases d with d | d | d | d | d
  ·exact .inl (.inl d)
  ·exact .inl (.inr (.inl d))
  ·exact .inl (.inr (.inr (.inl d)))
  ·exact(o k d).imp (fun e=>.inr (.inr (.inr (.inl e)))) id
  exact .inl (.inr (.inr (.inr (.inr d))))
 refine⟨⟨?_,?_,?_,h.EC,?_,?_,?_,DN h.Gj J,fun k d=> ?_,h.top⟩,⟨s.os,s.tape,s.output,f,fun k d K=>g k d (fun e=>K (.inl e)) (fun e=>K (.inr (.inr (.inr (.inl e))))),i⟩,m,Z,⟨Z,Z,Z⟩⟩
 ·rw[LK _ _ _ _ _ _ (C.trans h.blk)];rfl
 ·exact h.a.keep s f i (c _ _ h.a.Cx D D) (c _ _ h.a.Dh D D) (c _ _ h.a.Dm D D) (c _ _ h.a.Dn D D) (c _ _ h.a.Dp D D) (c _ _ h.a.Dq D D)
 ·exact h.b.keep s f i (c _ _ h.b.Cx D D) (c _ _ h.b.Dh D D) (c _ _ h.b.Dm D D) (c _ _ h.b.Dn D D) (c _ _ h.b.Dp D D) (c _ _ h.b.Dq D D)
 ·exact⟨L,Z,A.keep l.size (fun b o=>l.block b o.lt (o.ne (r.of C) D)) (fun k e=>l.block k (A.lt k e).2 ((A.ty k e).ne (r.of C) D))⟩
 ·obtain⟨M,e,G⟩:=h.log;exact⟨M,e,G.keep f i (fun k e=>g k (G.lt k e).2 ((G.ty k e).ne r D) (fun z=>h.ne k z e))⟩
 ·intro k e z
  rcases o k e with h1 | h1
  ·exact h.ne k h1 z
  have:=(h.Hq k z).1;omega
 rcases m k d with h1 | h1
 ·exact h.lo k h1
 exact La j h1
end C9
end
section
open Go.RowKit Go.Shelf
namespace t7
variable {N : Nat} {t t1 : Ft} {q q' : Pr} {w W W' : World}
theorem cell (h:t7 N t w t1 q W)(i:Nat)(v:Value)(a:(dg t1 q)[i]? =some v):W.cell? ⟨t.B,i,none⟩=some v:=by rw[<-h.eB];exact h.pa.cell i v a
theorem free (h:t7 N t w t1 q W)(i:Nat):W.frozen? ⟨t.B,i,none⟩=false:=by rw[<-h.eB];exact h.pa.free i
theorem qn (h:t7 N t w t1 q W)(a:Below W.heap.size W W'):t7 N t w t1 q W':=h.trans (h.pa.qn a)
theorem set (h:t7 N t w t1 q W)(i:Nat)(v:Value)(q':Pr)(he:(dg t1 q).setIfInBounds i v=dg t1 q')(d:q'.a.c=q.a.c)(e:q'.b.c=q.b.c)(f:q'.wire=q.wire)(g:q'.log=q.log)(j:q'.kq=q.kq):t7 N t w t1 q' (W.setCell ⟨t.B,i,none⟩ v):=by
 rw[<-h.eB];exact h.trans (h.pa.set i v q' he d e f g j)
theorem GY (h:t7 N t w t1 q W)(v:Value)(L:List bH)(a:W.grownBy W' t1.vL.ownBlock)(b:bJ W' N v L)(c:∀k,v.ownBlock=some k->t1.vL.ownBlock=some k\/W.heap.size<=k):t7 N t w { t1 with vL:=v } { q with log:=L.map (·.1) } (W'.setCell ⟨t.B,16,none⟩ v):=by
 rw[<-h.eB];exact h.trans (h.pa.GY v L a b c)
theorem setW (h:t7 N t w t1 q W)(v:Value)(L:List bH)(a:W.grownBy W' t1.vW.ownBlock)(b:bJ W' N v L)(c:∀k,v.ownBlock=some k->t1.vW.ownBlock=some k\/W.heap.size<=k):t7 N t w { t1 with vW:=v } { q with wire:=L.map (·.1) } (W'.setCell ⟨t.B,12,none⟩ v):=by
 rw[<-h.eB];exact h.trans (h.pa.setW v L a b c)
theorem size (h:t7 N t w t1 q W):w.heap.size<=W.heap.size:=h.fr.size
end t7
theorem aP.free {B:Nat}{x:bH}{W:World}(h:aP B x W)(i:Nat):W.frozen? ⟨B,i,none⟩=false:=LW _ _ _ _ _ h
structure E4 (N:Nat)(t:Ft)(w:World)(F:Nat)(x:bH)(t1:Ft)(q:Pr)(W:World):Prop where
 st:t7 N t w t1 q W
 row:aP F x W
 nd:¬t1.D F
 bl:bE W x.2.1 x.1.s.bl
 lo:w.heap.size<=F
 hN:N<=F
namespace E4
variable {N F : Nat} {x y : bH} {t t1 t2 : Ft} {q q' : Pr} {w W W' : World}
theorem qn (h:E4 N t w F x t1 q W)(a:Below W.heap.size W W'):E4 N t w F x t1 q W':=⟨h.st.qn a,h.row.below a,h.nd,h.bl.keep a.size (.below a),h.lo,h.hN⟩
theorem new (h:t7 N t w t1 q W)(b:bE W x.2.1 x.1.s.bl):E4 N t w W.heap.size x t1 q (W.alloc (.cells (dC x).toArray 55)):=by
 have a:=(L5 W.heap.size W).alloc (L6 _) (.cells (dC x).toArray 55);exact⟨h.qn a,aP.new _ _,fun e=>MG _ (h.pa.GC _ e).1,b.keep a.size (.below a),h.size,h.pa.big⟩
theorem step (h:E4 N t w F x t1 q W)(k:t7 N t1 W t2 q' W'):E4 N t w F x t2 q' W' :=
 ⟨h.st.trans k,(k.fr.block F h.row.lt h.nd).trans h.row,fun e=>by
  rcases k.sub F e with h1 | h1
  ·exact h.nd h1
  ·exact MG _ (Ld h.row.lt h1),h.bl.keep k.fr.size k.fr.sp,h.lo,h.hN⟩
theorem set (h:E4 N t w F x t1 q W)(i:Nat)(v:Value)(q':Pr)(he:(dg t1 q).setIfInBounds i v=dg t1 q')(d:q'.a.c=q.a.c)(e:q'.b.c=q.b.c)(f:q'.wire=q.wire)(g:q'.log=q.log)(j:q'.kq=q.kq):E4 N t w F x t1 q' (W.setCell ⟨t.B,i,none⟩ v):=by
 rw[<-h.st.eB];exact h.step (h.st.pa.set i v q' he d e f g j)
theorem log (h:E4 N t w F x t1 q W)(v:Value)(L:List bH)(a:W.grownBy W' t1.vL.ownBlock)(b:bJ W' N v L)(c:∀k,v.ownBlock=some k->t1.vL.ownBlock=some k\/W.heap.size<=k):E4 N t w F x { t1 with vL:=v } { q with log:=L.map (·.1) } (W'.setCell ⟨t.B,16,none⟩ v):=by
 rw[<-h.st.eB];exact h.step (h.st.pa.GY v L a b c)
theorem wire (h:E4 N t w F x t1 q W)(v:Value)(L:List bH)(a:W.grownBy W' t1.vW.ownBlock)(b:bJ W' N v L)(c:∀k,v.ownBlock=some k->t1.vW.ownBlock=some k\/W.heap.size<=k):E4 N t w F x { t1 with vW:=v } { q with wire:=L.map (·.1) } (W'.setCell ⟨t.B,12,none⟩ v):=by
 rw[<-h.st.eB];exact h.step (h.st.pa.setW v L a b c)
theorem FM (h:E4 N t w F x t1 q W)(i:Nat)(v:Value)(he:(dC x).toArray.setIfInBounds i v=(dC y).toArray)(hy:y.2=x.2/\y.1.s=x.1.s):E4 N t w F y t1 q (W.setCell ⟨F,i,none⟩ v):=by
 have a:nF F W (W.setCell ⟨F,i,none⟩ v):=(nF.refl _ _).setCell i v;have b:aG W (W.setCell ⟨F,i,none⟩ v):=.Dj a h.row.ty D;have c:DV (fun k=>k=F) W (W.setCell ⟨F,i,none⟩ v):=⟨a.os,a.tape,a.output,a.size,fun k b d=>a.block k b d,b⟩;exact⟨⟨h.st.pa.apart c (fun k e=>by subst e;exact⟨h.hN,h.nd⟩),h.st.fr.trans c (fun k e=>.inr (by subst e;exact h.lo)),h.st.sub,h.st.eB,h.st.eC⟩,h.row.set i v he,h.nd,by rw[hy.1,hy.2];exact h.bl.keep a.size b,h.lo,h.hN⟩
theorem GZ (h:E4 N t w F x t1 q W)(b:W.grownBy W' t1.vL.ownBlock):W'.heap[t.B]? =W.heap[t.B]? /\W'.heap[F]? =W.heap[F]? :=by
 have a:=h.st.pa.GB;rw[h.st.eB]at a;exact⟨b.block _ a.lt (fun e=>(h.st.pa.Hq _ e.symm).2.ne a D Z),b.block _ h.row.lt (fun e=>h.nd (.inr (.inr (.inr (.inr e.symm)))))⟩
theorem ED (h:E4 N t w F x t1 q W)(b:W.grownBy W' t1.vW.ownBlock):W'.heap[t.B]? =W.heap[t.B]? /\W'.heap[F]? =W.heap[F]? :=by
 have a:=h.st.pa.GB;rw[h.st.eB]at a;exact⟨b.block _ a.lt (fun e=>(h.st.pa.Hp _ e.symm).2.ne a D Z),b.block _ h.row.lt (fun e=>h.nd (.inr (.inr (.inr (.inl e.symm)))))⟩
end E4
theorem C9.Hr {N:Nat}{t:Ft}{p:Pr}{w:World}{k:Nat}{u:TypeId}(h:C9 N t p w)(c:dW w k u)(h0:u≠38)(h1:u≠85)(h2:u≠135)(d:u≠142)(f:u≠132)(g:u≠120)(i:u≠5)(j:u≠55):¬t.D k:=by
 intro e
 rcases e with rfl | e | e | e | e
 ·exact c.ne h.GB h0 Z
 ·rcases e with rfl | rfl | rfl | rfl | rfl | rfl
  ·exact c.ne h.a.Cx h1 Z
  ·exact c.ne h.a.Dh h2 Z
  ·exact c.ne h.a.Dm d Z
  ·exact c.ne h.a.Dn f Z
  ·exact c.ne h.a.Dp g Z
  exact c.ne h.a.Dq i Z
 ·rcases e with rfl | rfl | rfl | rfl | rfl | rfl
  ·exact c.ne h.b.Cx h1 Z
  ·exact c.ne h.b.Dh h2 Z
  ·exact c.ne h.b.Dm d Z
  ·exact c.ne h.b.Dn f Z
  ·exact c.ne h.b.Dp g Z
  exact c.ne h.b.Dq i Z
 ·exact c.ne (h.Hp _ e).2 j Z
 exact c.ne (h.Hq _ e).2 j Z
theorem aL.EK {N:Nat}{t:Ft}{p:Pr}{w w':World}{base:Nat}{v:Value}{l:List Sg}(h:aL w base v l)(b:C9 N t p w)(a:DV t.D w w'):aL w' base v l:=by
 obtain⟨M,e,h⟩:=h;exact⟨M,e,h.keep a.size a.sp (fun k e=>a.block k (h.lt k e).2 (b.Hr (h.ty k e) D D D D D D D D))⟩
end
section
open Go.RowKit Go.Shelf
def qt (W:World)(B:Nat)(x:bH):World:=((((((((((((((((W.setCell B (bI x.1.dst)).setCell ⟨B,1,none⟩ x.1.due).setCell ⟨B,2,none⟩ x.1.held).setCell ⟨B,3,none⟩ x.1.s.fp).setCell ⟨B,4,none⟩ x.1.s.tp).setCell ⟨B,5,none⟩ x.1.s.sq).setCell ⟨B,6,none⟩ x.1.s.ak).setCell ⟨B,7,none⟩ x.1.s.syn).setCell ⟨B,8,none⟩ x.1.s.fin).setCell ⟨B,9,none⟩ x.1.s.te).setCell ⟨B,10,none⟩ x.1.s.has).setCell ⟨B,11,none⟩ x.1.s.win).setCell ⟨B,12,none⟩ x.1.s.go).setCell ⟨B,13,none⟩ x.1.s.ke).setCell ⟨B,14,none⟩ (.slice x.2.1 x.1.s.bl.length x.2.2)).setCell ⟨B,15,none⟩ (.string ⟨x.1.s.s.toArray⟩))
theorem vS (W:World)(B:Nat)(x:bH):nF B W (qt W B x):=(((((((((((((((((nF.refl B W).setCell 0 _).setCell 1 _).setCell 2 _).setCell 3 _).setCell 4 _).setCell 5 _).setCell 6 _).setCell 7 _).setCell 8 _).setCell 9 _).setCell 10 _).setCell 11 _).setCell 12 _).setCell 13 _).setCell 14 _).setCell 15 _)
theorem bZ {B:Nat}{vs:Array Value}{W:World}(h:W.heap[B]? =some (.cells vs 55 (0,0)))(i:Nat)(v:Value):(W.setCell ⟨B,i,none⟩ v).heap[B]? =some (.cells (vs.setIfInBounds i v) 55 (0,0)):=LK _ _ _ _ _ _ h
theorem aP.put {B:Nat}{x y:bH}{W:World}(h:aP B x W):aP B y (qt W B y):=by
 have:=(bZ (bZ (bZ (bZ (bZ (bZ (bZ (bZ (bZ (bZ (bZ (bZ (bZ (bZ (bZ (bZ h 0 (bI y.1.dst)) 1 y.1.due) 2 y.1.held) 3 y.1.s.fp) 4 y.1.s.tp) 5 y.1.s.sq) 6 y.1.s.ak) 7 y.1.s.syn) 8 y.1.s.fin) 9 y.1.s.te) 10 y.1.s.has) 11 y.1.s.win) 12 y.1.s.go) 13 y.1.s.ke) 14 (.slice y.2.1 y.1.s.bl.length y.2.2)) 15 (.string ⟨y.1.s.s.toArray⟩));simp only[dC,aX,Lf,Lk,Lm]at this;exact this
theorem Ap {W:World}{B:Nat}{v0 v1 v2 v3 g h i j k l a b c d e f:Value}:nF B W ((((((((((((((((W.setCell B (v0)).setCell ⟨B,1,none⟩ (v1)).setCell ⟨B,2,none⟩ (v2)).setCell ⟨B,3,none⟩ (v3)).setCell ⟨B,4,none⟩ (g)).setCell ⟨B,5,none⟩ (h)).setCell ⟨B,6,none⟩ (i)).setCell ⟨B,7,none⟩ (j)).setCell ⟨B,8,none⟩ (k)).setCell ⟨B,9,none⟩ (l)).setCell ⟨B,10,none⟩ (a)).setCell ⟨B,11,none⟩ (b)).setCell ⟨B,12,none⟩ (c)).setCell ⟨B,13,none⟩ (d)).setCell ⟨B,14,none⟩ (e)).setCell ⟨B,15,none⟩ (f)):=(((((((((((((((((nF.refl B W).setCell 0 _).setCell 1 _).setCell 2 _).setCell 3 _).setCell 4 _).setCell 5 _).setCell 6 _).setCell 7 _).setCell 8 _).setCell 9 _).setCell 10 _).setCell 11 _).setCell 12 _).setCell 13 _).setCell 14 _).setCell 15 _)
def Bt (B:Nat)(x:bH)(W:World):Prop:=W.cell? B=some (bI x.1.dst:Y)/\W.cell? ⟨B,1,none⟩=some (x.1.due:Y)/\W.cell? ⟨B,2,none⟩=some (x.1.held:Y)/\W.cell? ⟨B,3,none⟩=some (x.1.s.fp:Y)/\W.cell? ⟨B,4,none⟩=some (x.1.s.tp:Y)/\W.cell? ⟨B,5,none⟩=some (x.1.s.sq:Y)/\W.cell? ⟨B,6,none⟩=some (x.1.s.ak:Y)/\W.cell? ⟨B,7,none⟩=some (x.1.s.syn:Y)/\W.cell? ⟨B,8,none⟩=some (x.1.s.fin:Y)/\W.cell? ⟨B,9,none⟩=some (x.1.s.te:Y)/\W.cell? ⟨B,10,none⟩=some (x.1.s.has:Y)/\W.cell? ⟨B,11,none⟩=some (x.1.s.win:Y)/\W.cell? ⟨B,12,none⟩=some (x.1.s.go:Y)/\W.cell? ⟨B,13,none⟩=some (x.1.s.ke:Y)/\W.cell? ⟨B,14,none⟩=some (.slice x.2.1 x.1.s.bl.length x.2.2)/\W.cell? ⟨B,15,none⟩=some (.string ⟨x.1.s.s.toArray⟩)
theorem aP.all {B:Nat}{x:bH}{W:World}(h:aP B x W):Bt B x W:=⟨h.cell 0 _ Z,h.cell 1 _ Z,h.cell 2 _ Z,h.cell 3 _ Z,h.cell 4 _ Z,h.cell 5 _ Z,h.cell 6 _ Z,h.cell 7 _ Z,h.cell 8 _ Z,h.cell 9 _ Z,h.cell 10 _ Z,h.cell 11 _ Z,h.cell 12 _ Z,h.cell 13 _ Z,h.cell 14 _ Z,h.cell 15 _ Z⟩
theorem aP.range {B:Nat}{x:bH}{W:World}(h:aP B x W):W.rangeAt B 0 (dC x):=fun j v a=>by rw[MQ];exact h.cell j v a
theorem dD:(Tryz.prog.info? 55).map (·.size)=some 16:=by obtain⟨a,hi,-,hz,-⟩:=MJ sK;rw[hi];exact congrArg some hz
theorem ie:(Tryz.prog.info? 53).map (·.size)=some 13:=by kernel_rfl
def BQ (b:Nat)(now:Int)(g k:Nat)(x:cP)(W:World):Prop:=W.cell? ⟨b,13,none⟩=some (now:Y)/\W.rangeAt g (k*13) (aX x)
theorem BQ.keep {b:Nat}{now:Int}{g k:Nat}{x:cP}{W W':World}(h:BQ b now g k x W)(h1:W'.heap[g]? =W.heap[g]?)(h2:W'.heap[b]? =W.heap[b]?):BQ b now g k x W' :=
 ⟨(Li (a:=⟨b,13,none⟩) h2).trans h.1,fun j v c=>(Li (a:=⟨g,k*13+j,none⟩) h1).trans (h.2 j v c)⟩
theorem BQ.IB {b:Nat}{now:Int}{g k:Nat}{x:cP}{w W:World}(h:W.cell? ⟨b,13,none⟩=some (now:Y))(d:∀j,j<13->∀u,(aX x)[j]? =some u->w.cell? ⟨g,k*13+j,none⟩=some u)(h1:W.heap[g]? =w.heap[g]?):BQ b now g k x W :=
 ⟨h,fun j v c=>(Li (a:=⟨g,k*13+j,none⟩) h1).trans (d j (by have:=(MO.1 c).1;exact this) v c)⟩
def CZ:bH:=(⟨false,0,false,dE⟩,none,0)
theorem qu (i:Bool):∀(l:List Sg) (p:Pr),(p.put i l).many=p.many+l.length:=by
 intro l
 induction l with
 | nil=>intro p;rfl
 | cons s l a=>intro p;exact(a (p.z7 i s)).trans (by show p.many+1+l.length=p.many+(l.length+1);omega)
theorem jz (i:Bool):∀(l:List Sg) (p:Pr),(p.put i l).log.length=p.log.length+l.length/\(p.put i l).wire.length<=p.wire.length+2*l.length:=by
 intro l
 induction l with
 | nil=>intro p;exact⟨Z,L6 _⟩
 | cons s l a =>
  intro p;obtain⟨h1,h2⟩:=a (p.z7 i s);have e:(p.z7 i s).log.length=p.log.length+1:=by unfold Pr.z7;dsimp only;rw[Lc];rfl
  have b:(p.z7 i s).wire.length<=p.wire.length+2:=by
   unfold Pr.z7;dsimp only;rw[Lc];have:(p.D6 (p.fl i s)).length<=2:=by unfold Pr.D6;(repeat' split) <;> simp
   omega
  exact⟨h1.trans (by rw[e,LC];omega),by rw[LC];have c:(p.put i (s::l)).wire.length=((p.z7 i s).put i l).wire.length:=Z;omega⟩
theorem cD (i:Bool):∀(l:List Sg) (p:Pr),(p.put i l).a=p.a/\(p.put i l).b=p.b/\(p.put i l).now=p.now/\(p.put i l).kq=p.kq:=by
 intro l
 induction l with
 | nil=>intro p;exact⟨Z,Z,Z,Z⟩
 | cons s l c=>intro p;exact c (p.z7 i s)
theorem yU (p:Pr)(i:Bool)(l:List Sg)(s:Sg):p.put i (l++[s])=(p.put i l).z7 i s:=by unfold Pr.put;rw[N5];rfl
theorem E4.I7 {N F:Nat}{x y:bH}{t t1:Ft}{q:Pr}{w W:World}(h:E4 N t w F x t1 q W)(hy:bE W y.2.1 y.1.s.bl):E4 N t w F y t1 q (qt W F y):=by
 have a:=vS W F y;have b:aG W (qt W F y):=.Dj a h.row.ty D;have c:DV (fun k=>k=F) W (qt W F y):=⟨a.os,a.tape,a.output,a.size,fun k b d=>a.block k b d,b⟩;exact⟨⟨h.st.pa.apart c (fun k e=>by subst e;exact⟨h.hN,h.nd⟩),h.st.fr.trans c (fun k e=>.inr (by subst e;exact h.lo)),h.st.sub,h.st.eB,h.st.eC⟩,h.row.put,h.nd,hy.keep a.size b,h.lo,h.hN⟩
theorem E4.GD {N F:Nat}{x:bH}{t t1:Ft}{q q':Pr}{w W:World}(h:E4 N t w F x t1 q W)(e:q'=q):E4 N t w F x t1 q' W:=e ▸ h
def Pr.lg (q:Pr)(i:Bool)(s:Sg):Pr:={ q with many:=q.many+1,log:=q.log++[q.fl i s] }
theorem kA (q:Pr)(i:Bool)(s:Sg)(L:List Fl)(h:q.D6 (q.fl i s)=L):q.z7 i s={ q.lg i s with wire:=q.wire++L }:=by rw[<-h];rfl
def kh (N:Nat)(t:Ft)(w:World)(p:Pr)(e:Ending)(w':World):Prop:=e= .returned (.tuple #[])/\Ao N t w p w'
end
section
open Go.RowKit Go.Shelf
def yV (mb:Nat)(ba bb:Bool)(W:World):Prop:=W.heap[mb]? =some (.cells #[ba,bb] 111 (0,0))
structure Dl (N:Nat)(t:Ft)(w:World)(t1:Ft)(q:Pr)(D0 L:List bH)(v2 v3:Value)(mb:Nat)(ba bb:Bool)(W:World):Prop where
 st:t7 N t w t1 q W
 d:bJ W N v2 D0
 l:bJ W N v3 L
 ne:∀k,v2.ownBlock=some k->v3.ownBlock≠some k
 nd:∀k,v2.ownBlock=some k->¬t1.D k/\w.heap.size<=k
 nl:∀k,v3.ownBlock=some k->¬t1.D k/\w.heap.size<=k
 met:yV mb ba bb W
 nm:¬t1.D mb/\w.heap.size<=mb
 hw:N<=w.heap.size
theorem bJ.val' {w:World}{N:Nat}{v:Value}{L:List bH}(h:bJ w N v L):∃a cap,v= .slice a L.length cap:=by
 obtain⟨a,cap,h1,-⟩:=h.val;exact⟨a,cap,h1⟩
namespace Dl
variable {N : Nat} {t t1 t2 : Ft} {q q' : Pr} {D0 L : List bH} {v2 v3 v : Value} {mb : Nat} {ba bb : Bool} {w W W' : World}
theorem start {p:Pr}(h:C9 N t p w):Dl N t w t p [] [] (.slice none 0 0) (.slice none 0 0) w.heap.size false false (w.alloc (.cells #[false,false] 111)) :=
 ⟨h.alloc _,bJ.nil _ _,bJ.nil _ _,(fun _ h=>nomatch h),(fun _ h=>nomatch h),(fun _ h=>nomatch h),Ls _ _,⟨fun e=>MG _ (h.GC _ e).1,L6 _⟩,h.big⟩
theorem mlt (h:Dl N t w t1 q D0 L v2 v3 mb ba bb W):mb<W.heap.size:=(L8.1 h.met).1
theorem mty (h:Dl N t w t1 q D0 L v2 v3 mb ba bb W):dW W mb 111:=⟨_,_,h.met⟩
theorem qn (h:Dl N t w t1 q D0 L v2 v3 mb ba bb W)(a:Below W.heap.size W W'):Dl N t w t1 q D0 L v2 v3 mb ba bb W' :=
 ⟨h.st.qn a,h.d.below a,h.l.below a,h.ne,h.nd,h.nl,(a.block _ h.mlt).trans h.met,h.nm,h.hw⟩
theorem pair (h:Dl N t w t1 q D0 L v2 v3 mb ba bb W)(k:t7 N t1 W t2 q' W'):Dl N t w t2 q' D0 L v2 v3 mb ba bb W':=by
 have a:∀x,x<W.heap.size->¬t1.D x->¬t2.D x:=fun x c b e=>by
  rcases k.sub x e with h1 | h1
  ·exact b h1
  omega
 exact⟨h.st.trans k,h.d.keep k.fr.size k.fr.sp (fun x e=>k.fr.block x (h.d.lt x e).2 (h.nd x e).1),h.l.keep k.fr.size k.fr.sp (fun x e=>k.fr.block x (h.l.lt x e).2 (h.nl x e).1),h.ne,fun x e=>⟨a x (h.d.lt x e).2 (h.nd x e).1,(h.nd x e).2⟩,fun x e=>⟨a x (h.l.lt x e).2 (h.nl x e).1,(h.nl x e).2⟩,(k.fr.block mb h.mlt h.nm.1).trans h.met,⟨a mb h.mlt h.nm.1,h.nm.2⟩,h.hw⟩
theorem frame (a:W.grownBy W' v.ownBlock)(b:bJ W N v D0):DV (fun k=>v.ownBlock=some k) W W':=⟨a.os,a.tape,a.output,a.size,fun k c d=>a.block k c (fun e=>d e.symm),b.ys a⟩
theorem I8 (h:t7 N t w t1 q W)(a:bJ W N v D0)(b:∀k,v.ownBlock=some k->¬t1.D k/\w.heap.size<=k)(c:W.grownBy W' v.ownBlock):t7 N t w t1 q W' :=
 ⟨h.pa.apart (frame c a) (fun k e=>⟨(a.lt k e).1,(b k e).1⟩),h.fr.trans (frame c a) (fun k e=>.inr (b k e).2),h.sub,h.eB,h.eC⟩
theorem I9 (h:t7 N t w t1 q W)(k:Nat)(a:t1.D k):k<W.heap.size:=(h.pa.GC k a).1
theorem Ht (h:Dl N t w t1 q D0 L v2 v3 mb ba bb W){x:bH}(g:bJ W' N v (D0++[x]))(b:W.grownBy W' v2.ownBlock)(f:v.ownBlock=v2.ownBlock\/∃k,v.ownBlock=some k/\W.heap.size<=k):Dl N t w t1 q (D0++[x]) L v v3 mb ba bb W':=by
 have hs:=h.st.size;refine⟨I8 h.st h.d h.nd b,g,h.l.keep b.size (h.d.ys b) (fun k e=>b.block k (h.l.lt k e).2 (fun a=>h.ne k a.symm e)),fun k e=> ?_,fun k e=> ?_,h.nl,(b.block mb h.mlt (fun e=>h.mty.ne (h.d.ty mb e.symm) D Z)).trans h.met,h.nm,h.hw⟩
 ·rcases f with a | ⟨i,a,h2⟩
  ·exact h.ne k (a ▸ e)
  rw[a]at e
  cases e
  exact fun c=>by have:=(h.l.lt _ c).2;omega
 rcases f with a | ⟨i,a,h2⟩
 ·exact h.nd k (a ▸ e)
 rw[a]at e
 cases e
 exact⟨fun c=>by have:=I9 h.st _ c;omega,O⟩
theorem Ia (h:Dl N t w t1 q D0 L v2 v3 mb ba bb W){x:bH}(g:bJ W' N v (L++[x]))(b:W.grownBy W' v3.ownBlock)(f:v.ownBlock=v3.ownBlock\/∃k,v.ownBlock=some k/\W.heap.size<=k):Dl N t w t1 q D0 (L++[x]) v2 v mb ba bb W':=by
 have hs:=h.st.size;refine⟨I8 h.st h.l h.nl b,h.d.keep b.size (h.l.ys b) (fun k e=>b.block k (h.d.lt k e).2 (fun a=>h.ne k e a.symm)),g,fun k e=> ?_,h.nd,fun k e=> ?_,(b.block mb h.mlt (fun e=>h.mty.ne (h.l.ty mb e.symm) D Z)).trans h.met,h.nm,h.hw⟩
 ·rcases f with a | ⟨i,a,h2⟩
  ·rw[a];exact h.ne k e
  rw[a];intro c
  cases c
  have:=(h.d.lt _ e).2;omega
 rcases f with a | ⟨i,a,h2⟩
 ·exact h.nl k (a ▸ e)
 rw[a]at e
 cases e
 exact⟨fun c=>by have:=I9 h.st _ c;omega,O⟩
theorem flag (h:Dl N t w t1 q D0 L v2 v3 mb ba bb W)(i:Nat)(u:Value)(c f:Bool)(he:(#[ba,bb]:Array Value).setIfInBounds i u= #[(c:Y),f]):Dl N t w t1 q D0 L v2 v3 mb c f (W.setCell ⟨mb,i,none⟩ u):=by
 have a:nF mb W (W.setCell ⟨mb,i,none⟩ u):=(nF.refl _ _).setCell i u;have b:aG W (W.setCell ⟨mb,i,none⟩ u):=.Dj a h.mty D;have g:DV (fun k=>k=mb) W (W.setCell ⟨mb,i,none⟩ u):=⟨a.os,a.tape,a.output,a.size,fun k b j=>a.block k b j,b⟩;have m:N<=mb:=La h.hw h.nm.2;refine⟨⟨h.st.pa.apart g (fun k e=>by subst e;exact⟨m,h.nm.1⟩),h.st.fr.trans g (fun k e=>.inr (by subst e;exact h.nm.2)),h.st.sub,h.st.eB,h.st.eC⟩,h.d.keep a.size b (fun k e=>a.block k (h.d.lt k e).2 ((h.d.ty k e).ne h.mty D)),h.l.keep a.size b (fun k e=>a.block k (h.l.lt k e).2 ((h.l.ty k e).ne h.mty D)),h.ne,h.nd,h.nl,?_,h.nm,h.hw⟩;unfold yV;rw[LK _ _ _ _ _ _ h.met,he]
theorem GD (h:Dl N t w t1 q D0 L v2 v3 mb ba bb W)(e:q'=q):Dl N t w t1 q' D0 L v2 v3 mb ba bb W:=e ▸ h
theorem IC (h:Dl N t w t1 q D0 L v2 v3 mb ba bb W){F:Nat}{x:bH}(hF:aP F x W)(a:bE W x.2.1 x.1.s.bl)(h1:w.heap.size<=F)(h2:¬t1.D F):E4 N t w F x t1 q W:=⟨h.st,hF,h2,a,h1,La h.hw h1⟩
theorem Ee (h:Dl N t w t1 q D0 L v2 v3 mb ba bb W)(i:Nat)(u:Value)(a:(#[ba,bb]:Array Value)[i]? =some u):W.cell? ⟨mb,i,none⟩=some u:=by rw[Lq _ _ _ _ _ _ h.met];exact a
theorem GO (h:Dl N t w t1 q D0 L v2 v3 mb ba bb W)(i:Nat):W.frozen? ⟨mb,i,none⟩=false:=LW _ _ _ _ _ h.met
end Dl
theorem bJ.at {w:World}{N:Nat}{v:Value}{M:List bH}(h:bJ w N v M){k:Nat}(b:k<M.length) :
  ∃g cap,v= .slice (some ⟨g,0,none⟩) M.length cap/\g<w.heap.size/\∀j,j<16->∀u,(dC M[k])[j]? =some u->w.cell? ⟨g,k*16+j,none⟩=some u:=by
 obtain⟨g,cap,c,i,d,l,a⟩:=h.cells O;exact⟨g,cap,c,d,fun j e u f=>by have:=a (k*16+j) u (by rw[vR M k b j e];exact f);rwa [Mw,MQ]at this⟩
theorem me {w:World}{g k:Nat}{x:bH}(h:∀j,j<16->∀u,(dC x)[j]? =some u->w.cell? ⟨g,k*16+j,none⟩=some u):w.rangeAt g (k*16) (dC x):=fun j v a=>h j (by have:=(MO.1 a).1;exact this) v a
theorem sL {w:World}{b:Nat}{t:TypeId}{a:Nat×Nat}{x:bH}(h:w.heap[b]? =some (.cells (dC x).toArray t a)):∀j u,(bM [x])[j]? =some u->w.cell? ((⟨b,0,none⟩:Addr).add j)=some u:=by
 intro j u c;rw[Mw,MQ,Lq _ _ _ _ _ _ h]
 simpa[bM]using c
end
end Go.Proofs.YtcmncipikdpnbaaGreatDoor
