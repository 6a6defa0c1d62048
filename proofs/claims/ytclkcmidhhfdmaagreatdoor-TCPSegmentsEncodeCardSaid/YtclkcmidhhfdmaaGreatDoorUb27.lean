import Derived.Test.YtclkcmidhhfdmaaGreatDoorUb7
import Derived.Test.YtclkcmidhhfdmaaGreatDoorUb22
namespace Go.Proofs.YtclkcmidhhfdmaaGreatDoor
section
open Go.RowKit Go.Shelf
def bI (b:Bool):Int:=if b=true then 1 else 0
abbrev bG := Fl × Option Addr × Nat
def ct (x:bG):List Value:=.int .i64 (bI x.1.dst):: .int .i64 x.1.due:: .bool x.1.held::aW (x.1.s,x.2.1,x.2.2)
def bE (L:List bG):List Value:=L.flatMap ct
theorem iu (A B:List bG):bE (A++B)=bE A++bE B:=List.flatMap_append ..
theorem iw (L:List bG):(bE L).length=L.length*16:=by
 induction L with
 | nil=>rfl
 | cons x L ih=>show(ct x++bE L).length=_;rw[List.length_append,ih,List.length_cons];show 16+_=_;omega
theorem rR (L:List bG)(i:Nat)(h:i<L.length)(j:Nat)(hj:j<16):(bE L)[i*16+j]? =(ct L[i])[j]? :=by
 induction L generalizing i with
 | nil=>simp at h
 | cons x L ih =>
  show(ct x++bE L)[i*16+j]? =_
  cases i with
  | zero=>rw[List.getElem?_append_left (by show 0*16+j<16;omega)];simp
  | succ i =>
   rw[List.getElem?_append_right (by show 16<=_;omega)];rw[show(i+1)*16+j-(ct x).length=i*16+j by show _-16=_;omega]
   simpa using ih i (by simpa using h)
theorem lk (L:List bG):∀u∈bE L,u.oneCell'=true:=by
 intro u hu;obtain⟨x,_,h⟩:=List.mem_flatMap.1 hu
 simp[ct,aW]at h
 rcases h with rfl | rfl | rfl | rfl | rfl | rfl | rfl | rfl | rfl | rfl | rfl | rfl | rfl | rfl | rfl | rfl <;> rfl
theorem pJ:(Tryz.prog.info? 46).map (fun i=>(i.zero,i.size,i.bytes))=some (some (.agg #[(0:Int),(0:Int),false,(0:Int),(0:Int),(0:Int),(0:Int),false,false,false,false,(0:Int),(0:Int),false,.slice none 0 0,.string ⟨#[]⟩]),16,128):=by kernel_rfl
def bM (w:World)(base:Nat)(v:Value)(L:List bG):Prop:=w.ownsRow base 46 16 v L.length (bE L)/\∀x∈L,au w x.2.1 x.1.s.bl
def nu (w:World)(base:Nat)(v:Value)(L:List Fl):Prop:=∃M:List bG,M.map (·.1)=L/\bM w base v M
theorem bM.nil (w:World)(base:Nat):bM w base (.slice none 0 0) []:=⟨World.ownsRow_nil _ _ _ _,fun _ h=>by simp at h⟩
theorem nu.nil (w:World)(base:Nat):nu w base (.slice none 0 0) []:=⟨[],rfl,bM.nil w base⟩
theorem bM.lt {w:World}{base:Nat}{v:Value}{L:List bG}(h:bM w base v L):∀k,v.ownBlock=some k->base<=k/\k<w.heap.size:=World.ownsRow.lt h.1
theorem bM.ty {w:World}{base:Nat}{v:Value}{L:List bG}(h:bM w base v L):∀k,v.ownBlock=some k->cu w k 46:=by
 rcases h.1.2 with⟨rfl,hl⟩ | ⟨g,cap,cur,rfl,hbg,hg,r⟩
 ·intro k e;cases e
 intro k e;cases e;exact⟨_,_,hg⟩
theorem bM.keep {w w':World}{base:Nat}{v:Value}{L:List bG}(h:bM w base v L)(hs:w.heap.size<=w'.heap.size)(hk:aE w w')(hb:∀k,v.ownBlock=some k->w'.heap[k]? =w.heap[k]?):bM w' base v L:=by
 refine⟨⟨h.1.1,?_⟩,fun x hx=>(h.2 x hx).keep hs hk⟩
 rcases h.1.2 with hn | ⟨g,cap,cur,rfl,hbg,hg,r⟩
 ·exact .inl hn
 exact .inr ⟨g,cap,cur,rfl,hbg,(hb g rfl).trans hg,r⟩
theorem bM.below {w w':World}{base:Nat}{v:Value}{L:List bG}(h:bM w base v L)(hb:Below w.heap.size w w'):bM w' base v L :=
 h.keep hb.size (.below hb) (fun k e=>hb.block k (h.lt k e).2)
theorem bM.mono {w:World}{base base':Nat}{v:Value}{L:List bG}(h:bM w base v L)(hb:base'<=base):bM w base' v L:=by
 refine⟨⟨h.1.1,?_⟩,h.2⟩
 rcases h.1.2 with h | ⟨g,cap,cur,hv,hbg,r⟩
 ·exact .inl h
 exact .inr ⟨g,cap,cur,hv,Nat.le_trans hb hbg,r⟩
theorem bM.val {w:World}{base:Nat}{v:Value}{L:List bG}(h:bM w base v L):∃a cap,v= .slice a L.length cap/\L.length<=cap/\∀ad,a=some ad->ad=⟨ad.block,0,none⟩:=by
 rcases h.1.2 with⟨rfl,hn⟩ | ⟨g,cap,cur,hv,hbg,hg,hnc,hcm,hcs,htake⟩
 ·exact⟨none,0,by rw[hn],by omega,fun _ e=>by cases e⟩
 exact⟨_,cap,hv,hnc,fun _ e=>by cases e;rfl⟩
theorem bM.cells {w:World}{base:Nat}{v:Value}{L:List bG}(h:bM w base v L)(hL:0<L.length) :
  ∃g cap,v= .slice (some ⟨g,0,none⟩) L.length cap/\base<=g/\g<w.heap.size/\L.length<=cap/\∀j u,(bE L)[j]? =some u->w.cell? ((⟨g,0,none⟩:Addr).add j)=some u:=by
 rcases h.1.2 with⟨rfl,hl⟩ | ⟨g,cap,cur,rfl,hbg,hg,hnc,r⟩
 ·omega
 exact⟨g,cap,rfl,hbg,(Array.getElem?_eq_some_iff.1 hg).1,hnc,fun j u hu=>World.ownsRow.cells h.1 (g:=g) rfl j u hu⟩
theorem bM.spanKept {w w':World}{base:Nat}{v:Value}{L:List bG}(h:bM w base v L)(hg:w.grownBy w' v.ownBlock):aE w w':=fun b hb =>
 hg.block b hb.lt (fun e=>(hb.ne (h.ty b e.symm) (by decide)) rfl)
theorem bM.tyKept {w w':World}{base:Nat}{v:Value}{L:List bG}(h:bM w base v L)(hg:w.grownBy w' v.ownBlock){b:Nat}{t:TypeId}(hb:cu w b t)(ht:t≠46):w'.heap[b]? =w.heap[b]? :=
 hg.block b hb.lt (fun e=>(hb.ne (h.ty b e.symm) ht) rfl)
theorem dC (w:World){ops:Array Oper}{rest:List Oper}{o:Oper}{a:Act}{Q:Exit->Act->World->Prop}(hgd:o.guard=none)(s x:Operand)
  (ho:o.op= .call { callee:=.builtin .append,args:= #[s,x],argTypes:= #[38,38] })(base:Nat)
  (v:Value)(L:List bG)(hs:a.eval s=v)(hown:bM w base v L)
  (b off c:Nat)(M:List bG)(hx:a.eval x= .slice (some ⟨b,off,none⟩) M.length c)(hM:∀j u,(bE M)[j]? =some u->w.cell? ((⟨b,off,none⟩:Addr).add j)=some u)(hB:∀y∈M,au w y.2.1 y.1.s.bl)(hL:L.length+M.length<=1000000000000)(hbase:base<=w.heap.size)
  (h:∀v' w',bM w' base v' (L++M)->w.grownBy w' v.ownBlock->(v'.ownBlock=v.ownBlock\/∃k,v'.ownBlock=some k/\w.heap.size<=k)->wpList Tryz.prog ops Q rest (a.put o.dst v') w'):wpList Tryz.prog ops Q (o::rest) a w:=by
 obtain⟨i0,hi,hz0,hz1,hz2⟩:=info_parts pJ
 obtain⟨v',w',hr,h2,h3,h4⟩:=bS (P:=Tryz.prog) w base 38 o.type 46 i0 _ 16 128 Tryz.underlying38 hi hz0 hz1 hz2 rfl (by decide) v L.length (bE L) hown.1 ⟨b,off,none⟩ M.length c (bE M) (iw M)
  hM (lk M) (by unfold maxLen;omega) (by omega) hbase
 refine wpList_plain hgd fun K hK=> ?_;unfold Oper.wp execOp;simp only[ho,resolve,invoke,builtin,Sem.run_bind,Sem.run_pure,Result.andThen_ok,List.map_toArray,List.map_cons,List.map_nil,hs,hx,hr];have hk:=hown.spanKept h3;refine hK _ _ (h v' w' ⟨?_,fun y hy=> ?_⟩ h3 h4)
 ·rw[List.length_append,iu];exact h2
 rcases List.mem_append.1 hy with hy | hy
 ·exact(hown.2 y hy).keep h3.size hk
 exact(hB y hy).keep h3.size hk
theorem bf {w:World}{ops:Array Oper}{o:Oper}{a:Act}{K:Act->World->Prop}{Q:Exit->Act->World->Prop}{E:Prop}(hgd:o.guard=none)(s x:Operand)
  (ho:o.op= .call { callee:=.builtin .append,args:= #[s,x],argTypes:= #[38,38] })(base:Nat)
  (v:Value)(L:List bG)(hs:a.eval s=v)(hown:bM w base v L)(b off c:Nat)(M:List bG)(hx:a.eval x= .slice (some ⟨b,off,none⟩) M.length c)
  (hM:∀j u,(bE M)[j]? =some u->w.cell? ((⟨b,off,none⟩:Addr).add j)=some u)(hB:∀y∈M,au w y.2.1 y.1.s.bl)(hL:L.length+M.length<=1000000000000)(hbase:base<=w.heap.size)
  (h:∀v' w',bM w' base v' (L++M)->w.grownBy w' v.ownBlock->(v'.ownBlock=v.ownBlock\/∃k,v'.ownBlock=some k/\w.heap.size<=k)->K (a.put o.dst v') w') :
  if Region.wanted o (yielded ops a.tmps)=true then Oper.wp Tryz.prog o a w K Q else E:=by
 have hw:Region.wanted o (yielded ops a.tmps)=true:=by simp[Region.wanted,hgd]
 rw[if_pos hw];obtain⟨i0,hi,hz0,hz1,hz2⟩:=info_parts pJ
 obtain⟨v',w',hr,h2,h3,h4⟩:=bS (P:=Tryz.prog) w base 38 o.type 46 i0 _ 16 128 Tryz.underlying38 hi hz0 hz1 hz2 rfl (by decide) v L.length (bE L) hown.1 ⟨b,off,none⟩ M.length c (bE M) (iw M)
  hM (lk M) (by unfold maxLen;omega) (by omega) hbase
 unfold Oper.wp execOp;simp only[ho,resolve,invoke,builtin,Sem.run_bind,Sem.run_pure,Result.andThen_ok,List.map_toArray,List.map_cons,List.map_nil,hs,hx,hr];have hk:=hown.spanKept h3;refine h v' w' ⟨?_,fun y hy=> ?_⟩ h3 h4
 ·rw[List.length_append,iu];exact h2
 rcases List.mem_append.1 hy with hy | hy
 ·exact(hown.2 y hy).keep h3.size hk
 exact(hB y hy).keep h3.size hk
def aN (B:Nat)(x:bG)(W:World):Prop:=W.heap[B]? =some (.cells (ct x).toArray 46 (0,0))
theorem aN.lt {B:Nat}{x:bG}{W:World}(h:aN B x W):B<W.heap.size:=(Array.getElem?_eq_some_iff.1 h).1
theorem aN.ty {B:Nat}{x:bG}{W:World}(h:aN B x W):cu W B 46:=⟨_,_,h⟩
theorem aN.below {B:Nat}{x:bG}{W W':World}(h:aN B x W)(hb:Below W.heap.size W W'):aN B x W':=(hb.block B h.lt).trans h
theorem aN.cell {B:Nat}{x:bG}{W:World}(h:aN B x W)(i:Nat)(v:Value)(hv:(ct x)[i]? =some v):W.cell? ⟨B,i,none⟩=some v:=by
 rw[cell_of_row _ _ _ _ _ _ h]
 simpa using hv
theorem aN.set {B:Nat}{x y:bG}{W:World}(h:aN B x W)(i:Nat)(v:Value)(he:(ct x).toArray.setIfInBounds i v=(ct y).toArray):aN B y (W.setCell ⟨B,i,none⟩ v):=by
 unfold aN;rw[heap_setCell_same _ _ _ _ _ _ h,he]
theorem aN.new (w:World)(x:bG):aN w.heap.size x (w.alloc (.cells (ct x).toArray 46)):=heap_alloc_new _ _
theorem fI {w:World}{b:Nat}{t:TypeId}{fr:Nat×Nat}{M:List bG}(h:w.heap[b]? =some (.cells (bE M).toArray t fr)):∀j u,(bE M)[j]? =some u->w.cell? ((⟨b,0,none⟩:Addr).add j)=some u:=by
 intro j u hj;rw[Addr.add_lit,Nat.zero_add,cell_of_row _ _ _ _ _ _ h]
 simpa using hj
end
section
open Go.RowKit Go.Shelf
structure Ft where
 B:Nat
 fa:Fp
 fb:Fp
 vW:Value
 vL:Value
 aF:Option Addr
 cF:Nat
def Ft.f (t:Ft)(i:Bool):Fp:=match i with | false=>t.fa | true=>t.fb
def Ft.setF (t:Ft)(i:Bool)(f:Fp):Ft:=match i with | false=>{ t with fa:=f } | true=>{ t with fb:=f }
def Fp.has (f:Fp)(k:Nat):Prop:=k=f.C\/k=f.S\/k=f.T\/k=f.G\/k=f.X\/k=f.R
def Ft.D (t:Ft)(k:Nat):Prop:=k=t.B\/t.fa.has k\/t.fb.has k\/t.vW.ownBlock=some k\/t.vL.ownBlock=some k
def dD (t:Ft)(p:Pr):Array Value:= #[
 .pointer (some ⟨t.fa.C,0,none⟩),.string ⟨p.a.all.toArray⟩,p.a.sent,.string ⟨p.a.got.toArray⟩,p.a.fin,p.a.closed,
 .pointer (some ⟨t.fb.C,0,none⟩),.string ⟨p.b.all.toArray⟩,p.b.sent,.string ⟨p.b.got.toArray⟩,p.b.fin,p.b.closed,
 t.vW,p.now,.slice t.aF p.fates.length t.cF,(p.many:Int),t.vL]
structure FatAt (N:Nat)(a:Option Addr)(l:List Int)(w:World):Prop where
 small:l.length<=1000
 in64:∀x∈l,aI x
 cells:0<l.length->∃b o,a=some ⟨b,o,none⟩/\b<N/\∀i,(hi:i<l.length)->w.cell? ⟨b,o+i,none⟩=some (l[i]:Y)
structure PrAt (N:Nat)(t:Ft)(p:Pr)(w:World):Prop where
 blk:w.heap[t.B]? =some (.cells (dD t p) 40 (0,0))
 a:CnAt t.fa p.a.c w
 b:CnAt t.fb p.b.c w
 dis:CnAt.Dis t.fa t.fb
 wire:nu w N t.vW p.wire
 log:nu w N t.vL p.log
 ne:∀k,t.vW.ownBlock=some k->t.vL.ownBlock≠some k
 fat:FatAt N t.aF p.fates w
 lo:∀k,t.D k->N<=k
 top:dZ<=N
structure PrFr (D:Nat->Prop)(w w':World):Prop where
 os:w'.os=w.os
 tape:w'.tape=w.tape
 output:w'.output=w.output
 size:w.heap.size<=w'.heap.size
 block:∀k,k<w.heap.size->¬D k->w'.heap[k]? =w.heap[k]?
 sp:aE w w'
theorem aE.trans {a b c:World}(h:aE a b)(k:aE b c):aE a c:=fun x hx=>(k x (hx.of (h x hx))).trans (h x hx)
theorem PrFr.refl (D:Nat->Prop)(w:World):PrFr D w w:=⟨rfl,rfl,rfl,Nat.le_refl _,fun _ _ _=>rfl,.refl w⟩
theorem PrFr.trans {D E:Nat->Prop}{a b c:World}(h:PrFr D a b)(k:PrFr E b c)(hE:∀x,E x->D x\/a.heap.size<=x):PrFr D a c :=
 ⟨k.os.trans h.os,k.tape.trans h.tape,k.output.trans h.output,Nat.le_trans h.size k.size,fun x hx hd=>(k.block x (Nat.lt_of_lt_of_le hx h.size) (fun he=>by rcases hE x he with h1 | h1 <;> first | exact hd h1 | omega)).trans (h.block x hx hd),h.sp.trans k.sp⟩
theorem PrFr.below {D:Nat->Prop}{w w':World}{N:Nat}(h:PrFr D w w')(hN:N<=w.heap.size)(hD:∀k,D k->N<=k):Below N w w' :=
 ⟨h.os,h.tape,h.output,h.size,fun k hk=>h.block k (by omega) (fun hd=>by have:=hD k hd;omega)⟩
structure PrSt (N:Nat)(t:Ft)(w:World)(t':Ft)(p':Pr)(w':World):Prop where
 pa:PrAt N t' p' w'
 fr:PrFr t.D w w'
 sub:∀k,t'.D k->t.D k\/w.heap.size<=k
 eB:t'.B=t.B
 eC:t'.fa.C=t.fa.C/\t'.fb.C=t.fb.C/\t'.aF=t.aF
theorem PrSt.start {N:Nat}{t:Ft}{p:Pr}{w:World}(h:PrAt N t p w):PrSt N t w t p w:=⟨h,.refl _ _,fun _ h=>.inl h,rfl,⟨rfl,rfl,rfl⟩⟩
theorem PrSt.trans {N:Nat}{t u v:Ft}{p q:Pr}{a b c:World}(h:PrSt N t a u p b)(k:PrSt N u b v q c):PrSt N t a v q c :=
 ⟨k.pa,h.fr.trans k.fr h.sub,fun x hx=>by
  rcases k.sub x hx with h1 | h1
  ·exact h.sub x h1
  ·exact .inr (Nat.le_trans h.fr.size h1),k.eB.trans h.eB,⟨k.eC.1.trans h.eC.1,k.eC.2.1.trans h.eC.2.1,k.eC.2.2.trans h.eC.2.2⟩⟩
def wB (N:Nat)(t:Ft)(w:World)(p':Pr)(w':World):Prop:=∃t',PrSt N t w t' p' w'
namespace PrAt
variable {N : Nat} {t : Ft} {p : Pr} {w w' : World}
theorem tyP (h:PrAt N t p w):cu w t.B 40:=⟨_,_,h.blk⟩
theorem cell (h:PrAt N t p w)(i:Nat)(v:Value)(hv:(dD t p)[i]? =some v):w.cell? ⟨t.B,i,none⟩=some v:=by rw[cell_of_row _ _ _ _ _ _ h.blk];exact hv
theorem free (h:PrAt N t p w)(i:Nat):w.frozen? ⟨t.B,i,none⟩=false:=frozen_of_row _ _ _ _ _ h.blk
theorem lt (h:PrAt N t p w):t.B<w.heap.size:=h.tyP.lt
theorem loB (h:PrAt N t p w):N<=t.B:=h.lo _ (.inl rfl)
theorem big (h:PrAt N t p w):N<=w.heap.size:=Nat.le_trans h.loB (Nat.le_of_lt h.lt)
theorem inW (h:PrAt N t p w):∀k,t.vW.ownBlock=some k->k<w.heap.size/\cu w k 46:=by
 obtain⟨M,-,hM⟩:=h.wire;exact fun k e=>⟨(hM.lt k e).2,hM.ty k e⟩
theorem inL (h:PrAt N t p w):∀k,t.vL.ownBlock=some k->k<w.heap.size/\cu w k 46:=by
 obtain⟨M,-,hM⟩:=h.log;exact fun k e=>⟨(hM.lt k e).2,hM.ty k e⟩
theorem inD (h:PrAt N t p w)(k:Nat)(hk:t.D k):k<w.heap.size/\¬cu w k 92:=by
 rcases hk with rfl | hk | hk | hk | hk
 ·exact⟨h.lt,fun e=>e.ne h.tyP (by decide) rfl⟩
 ·rcases hk with rfl | rfl | rfl | rfl | rfl | rfl
  ·exact⟨h.a.tyC.lt,fun e=>e.ne h.a.tyC (by decide) rfl⟩
  ·exact⟨h.a.tyS.lt,fun e=>e.ne h.a.tyS (by decide) rfl⟩
  ·exact⟨h.a.tyT.lt,fun e=>e.ne h.a.tyT (by decide) rfl⟩
  ·exact⟨h.a.tyG.lt,fun e=>e.ne h.a.tyG (by decide) rfl⟩
  ·exact⟨h.a.tyX.lt,fun e=>e.ne h.a.tyX (by decide) rfl⟩
  exact⟨h.a.tyR.lt,fun e=>e.ne h.a.tyR (by decide) rfl⟩
 ·rcases hk with rfl | rfl | rfl | rfl | rfl | rfl
  ·exact⟨h.b.tyC.lt,fun e=>e.ne h.b.tyC (by decide) rfl⟩
  ·exact⟨h.b.tyS.lt,fun e=>e.ne h.b.tyS (by decide) rfl⟩
  ·exact⟨h.b.tyT.lt,fun e=>e.ne h.b.tyT (by decide) rfl⟩
  ·exact⟨h.b.tyG.lt,fun e=>e.ne h.b.tyG (by decide) rfl⟩
  ·exact⟨h.b.tyX.lt,fun e=>e.ne h.b.tyX (by decide) rfl⟩
  exact⟨h.b.tyR.lt,fun e=>e.ne h.b.tyR (by decide) rfl⟩
 ·exact⟨(h.inW k hk).1,fun e=>e.ne (h.inW k hk).2 (by decide) rfl⟩
 exact⟨(h.inL k hk).1,fun e=>e.ne (h.inL k hk).2 (by decide) rfl⟩
theorem fatKeep {a:Option Addr}{l:List Int}(h:FatAt N a l w)(hN:∀k,k<N->w'.heap[k]? =w.heap[k]?):FatAt N a l w':=by
 refine⟨h.small,h.in64,fun hl=> ?_⟩;obtain⟨b,o,e,hb,hc⟩:=h.cells hl;exact⟨b,o,e,hb,fun i hi=>(World.cell?_of_block (a:=⟨b,_,none⟩) (hN b hb)).trans (hc i hi)⟩
theorem keep (h:PrAt N t p w)(e1:w'.os=w.os)(e2:w'.tape=w.tape)(e3:w'.output=w.output)(hs:w.heap.size<=w'.heap.size)(hN:∀k,k<N->w'.heap[k]? =w.heap[k]?)(hD:∀k,t.D k->w'.heap[k]? =w.heap[k]?)(hk:aE w w'):PrAt N t p w':=by
 have hl:Below dZ w w':=⟨e1,e2,e3,hs,fun k hk=>hN k (Nat.lt_of_lt_of_le hk h.top)⟩;have a2:∀k,t.fa.has k->w'.heap[k]? =w.heap[k]? :=fun k hk=>hD k (.inr (.inl hk));have a3:∀k,t.fb.has k->w'.heap[k]? =w.heap[k]? :=fun k hk=>hD k (.inr (.inr (.inl hk)));refine⟨(hD _ (.inl rfl)).trans h.blk,?_,?_,h.dis,?_,?_,h.ne,fatKeep h.fat hN,h.lo,h.top⟩
 ·exact h.a.keep hl hs hk (a2 _ (.inl rfl)) (a2 _ (.inr (.inl rfl))) (a2 _ (.inr (.inr (.inl rfl)))) (a2 _ (.inr (.inr (.inr (.inl rfl))))) (a2 _ (.inr (.inr (.inr (.inr (.inl rfl)))))) (a2 _ (.inr (.inr (.inr (.inr (.inr rfl))))))
 ·exact h.b.keep hl hs hk (a3 _ (.inl rfl)) (a3 _ (.inr (.inl rfl))) (a3 _ (.inr (.inr (.inl rfl)))) (a3 _ (.inr (.inr (.inr (.inl rfl))))) (a3 _ (.inr (.inr (.inr (.inr (.inl rfl)))))) (a3 _ (.inr (.inr (.inr (.inr (.inr rfl))))))
 ·obtain⟨M,e,hM⟩:=h.wire;exact⟨M,e,hM.keep hs hk (fun k hk=>hD k (.inr (.inr (.inr (.inl hk)))))⟩
 obtain⟨M,e,hM⟩:=h.log;exact⟨M,e,hM.keep hs hk (fun k hk=>hD k (.inr (.inr (.inr (.inr hk)))))⟩
theorem bel (h:PrAt N t p w)(hb:Below w.heap.size w w'):PrSt N t w t p w' :=
 ⟨h.keep hb.os hb.tape hb.output hb.size (fun k hk=>hb.block k (Nat.lt_of_lt_of_le hk h.big)) (fun k hk=>hb.block k (h.inD k hk).1) (.below hb),⟨hb.os,hb.tape,hb.output,hb.size,fun k hk _=>hb.block k hk,.below hb⟩,fun _ h=>.inl h,rfl,⟨rfl,rfl,rfl⟩⟩
theorem alloc (h:PrAt N t p w)(o:Obj):PrSt N t w t p (w.alloc o):=h.bel ((Below.refl _ w).alloc (Nat.le_refl _) o)
theorem drew (h:PrAt N t p w):PrSt N t w t p w.drew:=h.bel (Below.refl _ w).drew
theorem apart {D:Nat->Prop}(h:PrAt N t p w)(hf:PrFr D w w')(hD:∀k,D k->N<=k/\¬t.D k):PrAt N t p w' :=
 h.keep hf.os hf.tape hf.output hf.size (fun k hk=>hf.block k (Nat.lt_of_lt_of_le hk h.big) (fun e=>by have:=(hD k e).1;omega)) (fun k hk=>hf.block k (h.inD k hk).1 (fun e=>(hD k e).2 hk)) hf.sp
theorem set (h:PrAt N t p w)(i:Nat)(v:Value)(q:Pr)(he:(dD t p).setIfInBounds i v=dD t q)(e1:q.a.c=p.a.c)(e2:q.b.c=p.b.c)(e3:q.wire=p.wire)(e4:q.log=p.log)(e5:q.fates=p.fates):PrSt N t w t q (w.setCell ⟨t.B,i,none⟩ v):=by
 have hc:Chg t.B w (w.setCell ⟨t.B,i,none⟩ v):=(Chg.refl _ _).setCell i v;have hB:=h.tyP;have hg:dZ<=t.B:=Nat.le_trans h.top h.loB;have hk:aE w (w.setCell ⟨t.B,i,none⟩ v):=.chg hc hB (by decide);refine⟨⟨by rw[heap_setCell_same _ _ _ _ _ _ h.blk,he],?_,?_,h.dis,?_,?_,h.ne,?_,h.lo,h.top⟩,⟨hc.os,hc.tape,hc.output,hc.size,fun k hk hd=>hc.block k hk (fun e=>hd (.inl e)),hk⟩,fun _ h=>.inl h,rfl,⟨rfl,rfl,rfl⟩⟩
 ·rw[e1];exact h.a.beside hB hc hg (by decide) (by decide) (by decide) (by decide) (by decide) (by decide) (by decide)
 ·rw[e2];exact h.b.beside hB hc hg (by decide) (by decide) (by decide) (by decide) (by decide) (by decide) (by decide)
 ·rw[e3];obtain⟨M,e,hM⟩:=h.wire;exact⟨M,e,hM.keep hc.size hk (fun k e=>hc.block k (hM.lt k e).2 ((hM.ty k e).ne hB (by decide)))⟩
 ·rw[e4];obtain⟨M,e,hM⟩:=h.log;exact⟨M,e,hM.keep hc.size hk (fun k e=>hc.block k (hM.lt k e).2 ((hM.ty k e).ne hB (by decide)))⟩
 rw[e5];exact fatKeep h.fat (fun k hk=>hc.block k (Nat.lt_of_lt_of_le hk h.big) (by have:=h.loB;omega))
theorem onC (h:PrAt N t p w)(i:Bool)(g:Nat)(c:Cn)(hc:CnAt { t.f i with G:=g } c w')(hch:ChgF (t.f i) w w')(hg:g=(t.f i).G\/w.heap.size<=g):PrSt N t w (t.setF i { t.f i with G:=g }) (p.setC i c) w':=by
 have hbig:=h.big
 have hhas:∀k,¬(t.f i).has k->k<w.heap.size->w'.heap[k]? =w.heap[k]? :=by
  intro k hk hlt;unfold Fp.has at hk;exact hch.block k hlt (by omega) (by omega) (by omega) (by omega) (by omega) (by omega)
 have a5:∀k,(t.f i).has k->t.D k:=by
  intro k hk
  cases i
  ·exact .inr (.inl hk)
  exact .inr (.inr (.inl hk))
 have hN:∀k,k<N->w'.heap[k]? =w.heap[k]? :=fun k hk=>hhas k (fun e=>by have:=h.lo k (a5 k e);omega) (Nat.lt_of_lt_of_le hk hbig)
 have a0:CnAt (t.f i) (p.sd i).c w:=by
  cases i
  ·exact h.a
  exact h.b
 have hsp:aE w w':=a0.spanKept hch
 have hty:∀k u,cu w k u->u≠104->u≠171->u≠147->u≠168->u≠156->u≠5->w'.heap[k]? =w.heap[k]? :=fun k u hk h1 h2 h3 h4 h5 h6 =>
  hch.block k hk.lt (hk.ne a0.tyC h1) (hk.ne a0.tyS h2) (hk.ne a0.tyT h3) (hk.ne a0.tyG h4) (hk.ne a0.tyX h5) (hk.ne a0.tyR h6)
 have hB:=hty _ _ h.tyP (by decide) (by decide) (by decide) (by decide) (by decide) (by decide)
 have hW:nu w' N t.vW p.wire:=by
  obtain⟨M,e,hM⟩:=h.wire;exact⟨M,e,hM.keep hch.size hsp (fun k e=>hty _ _ (hM.ty k e) (by decide) (by decide) (by decide) (by decide) (by decide) (by decide))⟩
 have hL:nu w' N t.vL p.log:=by
  obtain⟨M,e,hM⟩:=h.log;exact⟨M,e,hM.keep hch.size hsp (fun k e=>hty _ _ (hM.ty k e) (by decide) (by decide) (by decide) (by decide) (by decide) (by decide))⟩
 have a6:PrFr t.D w w':=⟨hch.os,hch.tape,hch.output,hch.size,fun k hk hd=>hhas k (fun e=>hd (a5 k e)) hk,hsp⟩
 have hsub:∀k,(t.setF i { t.f i with G:=g }).D k->t.D k\/w.heap.size<=k:=by
  intro k hk
  have key:∀f:Fp,(g=f.G\/w.heap.size<=g)->({ f with G:=g }:Fp).has k->f.has k\/w.heap.size<=k:=by
   intro f hg hk;unfold Fp.has at hk|-;dsimp only at hk;omega
  cases i
  ·rcases hk with hk | hk | hk | hk | hk
   ·exact .inl (.inl hk)
   ·exact(key _ hg hk).imp (fun h=>.inr (.inl h)) id
   ·exact .inl (.inr (.inr (.inl hk)))
   ·exact .inl (.inr (.inr (.inr (.inl hk))))
   exact .inl (.inr (.inr (.inr (.inr hk))))
  rcases hk with hk | hk | hk | hk | hk
  ·exact .inl (.inl hk)
  ·exact .inl (.inr (.inl hk))
  ·exact(key _ hg hk).imp (fun h=>.inr (.inr (.inl h))) id
  ·exact .inl (.inr (.inr (.inr (.inl hk))))
  exact .inl (.inr (.inr (.inr (.inr hk))))
 have hlo:∀k,(t.setF i { t.f i with G:=g }).D k->N<=k:=fun k hk=>by
  rcases hsub k hk with h1 | h1
  ·exact h.lo k h1
  exact Nat.le_trans hbig h1
 refine⟨?_,a6,hsub,by cases i <;> rfl,by cases i <;> exact⟨rfl,rfl,rfl⟩⟩
 cases i
 ·refine⟨hB.trans h.blk,hc,h.b.across h.a ⟨h.dis.C.symm,h.dis.S.symm,h.dis.T.symm,h.dis.G.symm,h.dis.X.symm,h.dis.R.symm⟩ hch,⟨h.dis.C,h.dis.S,h.dis.T,?_,h.dis.X,h.dis.R⟩,hW,hL,h.ne,fatKeep h.fat hN,hlo,h.top⟩;have:=h.b.tyG.lt
  rcases hg with hg | hg
  ·exact fun e=>h.dis.G (hg.symm.trans e)
  exact fun e=>by have:g=t.fb.G:=e;omega
 refine⟨hB.trans h.blk,h.a.across h.b h.dis hch,hc,⟨h.dis.C,h.dis.S,h.dis.T,?_,h.dis.X,h.dis.R⟩,hW,hL,h.ne,fatKeep h.fat hN,hlo,h.top⟩;have:=h.a.tyG.lt
 rcases hg with hg | hg
 ·exact fun e=>h.dis.G (e.trans hg)
 exact fun e=>by have:t.fa.G=g:=e;omega
theorem setL (h:PrAt N t p w)(v:Value)(L:List bG)(hg:w.grownBy w' t.vL.ownBlock)(hv:bM w' N v L)(hb:∀k,v.ownBlock=some k->t.vL.ownBlock=some k\/w.heap.size<=k):PrSt N t w { t with vL:=v } { p with log:=L.map (·.1) } (w'.setCell ⟨t.B,16,none⟩ v):=by
 have hB:=h.tyP;have hbig:=h.big;obtain⟨ML,eL,a4⟩:=h.log;have a1:w'.heap[t.B]? =w.heap[t.B]? :=a4.tyKept hg hB (by decide);have hc:Chg t.B w' (w'.setCell ⟨t.B,16,none⟩ v):=(Chg.refl _ _).setCell 16 v;have hsz:w.heap.size<=(w'.setCell ⟨t.B,16,none⟩ v).heap.size:=Nat.le_trans hg.size hc.size;have key:∀k,k<w.heap.size->k≠t.B->t.vL.ownBlock≠some k->(w'.setCell ⟨t.B,16,none⟩ v).heap[k]? =w.heap[k]? :=fun k h1 h2 h3=>(hc.block k (Nat.lt_of_lt_of_le h1 hg.size) h2).trans (hg.block k h1 (fun e=>h3 e.symm));have hLo:∀k,t.vL.ownBlock=some k->N<=k:=fun k e=>h.lo k (.inr (.inr (.inr (.inr e))));have hN:∀k,k<N->(w'.setCell ⟨t.B,16,none⟩ v).heap[k]? =w.heap[k]? :=fun k hk=>key k (Nat.lt_of_lt_of_le hk hbig) (by have:=h.loB;omega) (fun e=>by have:=hLo k e;omega);have hty:∀k u,cu w k u->u≠40->u≠46->(w'.setCell ⟨t.B,16,none⟩ v).heap[k]? =w.heap[k]? :=fun k u hk h1 h2=>key k hk.lt (hk.ne hB h1) (fun e=>hk.ne (a4.ty k e) h2 rfl);have hsp:aE w (w'.setCell ⟨t.B,16,none⟩ v):=fun b hb=>hty b _ hb (by decide) (by decide);have hl:Below dZ w (w'.setCell ⟨t.B,16,none⟩ v):=⟨hc.os.trans hg.os,hc.tape.trans hg.tape,hc.output.trans hg.output,hsz,fun k hk=>hN k (Nat.lt_of_lt_of_le hk h.top)⟩
 have hsub:∀k,Ft.D { t with vL:=v } k->t.D k\/w.heap.size<=k:=by
  intro k hk
  rcases hk with hk | hk | hk | hk | hk
  ·exact .inl (.inl hk)
  ·exact .inl (.inr (.inl hk))
  ·exact .inl (.inr (.inr (.inl hk)))
  ·exact .inl (.inr (.inr (.inr (.inl hk))))
  exact(hb k hk).imp (fun e=>.inr (.inr (.inr (.inr e)))) id
 refine⟨⟨?_,?_,?_,h.dis,?_,?_,?_,fatKeep h.fat hN,fun k hk=> ?_,h.top⟩,⟨hl.os,hl.tape,hl.output,hsz,fun k hk hd=>key k hk (fun e=>hd (.inl e)) (fun e=>hd (.inr (.inr (.inr (.inr e))))),hsp⟩,hsub,rfl,⟨rfl,rfl,rfl⟩⟩
 ·rw[heap_setCell_same _ _ _ _ _ _ (a1.trans h.blk)];rfl
 ·exact h.a.keep hl hsz hsp (hty _ _ h.a.tyC (by decide) (by decide)) (hty _ _ h.a.tyS (by decide) (by decide)) (hty _ _ h.a.tyT (by decide) (by decide)) (hty _ _ h.a.tyG (by decide) (by decide)) (hty _ _ h.a.tyX (by decide) (by decide)) (hty _ _ h.a.tyR (by decide) (by decide))
 ·exact h.b.keep hl hsz hsp (hty _ _ h.b.tyC (by decide) (by decide)) (hty _ _ h.b.tyS (by decide) (by decide)) (hty _ _ h.b.tyT (by decide) (by decide)) (hty _ _ h.b.tyG (by decide) (by decide)) (hty _ _ h.b.tyX (by decide) (by decide)) (hty _ _ h.b.tyR (by decide) (by decide))
 ·obtain⟨M,e,hM⟩:=h.wire;exact⟨M,e,hM.keep hsz hsp (fun k e=>key k (hM.lt k e).2 ((hM.ty k e).ne hB (by decide)) (h.ne k e))⟩
 ·exact⟨L,rfl,hv.keep hc.size (fun b hb=>hc.block b hb.lt (hb.ne (hB.of a1) (by decide))) (fun k e=>hc.block k (hv.lt k e).2 ((hv.ty k e).ne (hB.of a1) (by decide)))⟩
 ·intro k e e2
  rcases hb k e2 with h1 | h1
  ·exact h.ne k e h1
  have:=(h.inW k e).1;omega
 rcases hsub k hk with h1 | h1
 ·exact h.lo k h1
 exact Nat.le_trans hbig h1
theorem setW (h:PrAt N t p w)(v:Value)(L:List bG)(hg:w.grownBy w' t.vW.ownBlock)(hv:bM w' N v L)(hb:∀k,v.ownBlock=some k->t.vW.ownBlock=some k\/w.heap.size<=k):PrSt N t w { t with vW:=v } { p with wire:=L.map (·.1) } (w'.setCell ⟨t.B,12,none⟩ v):=by
 have hB:=h.tyP;have hbig:=h.big;obtain⟨ML,eL,a4⟩:=h.wire;have a1:w'.heap[t.B]? =w.heap[t.B]? :=a4.tyKept hg hB (by decide);have hc:Chg t.B w' (w'.setCell ⟨t.B,12,none⟩ v):=(Chg.refl _ _).setCell 12 v;have hsz:w.heap.size<=(w'.setCell ⟨t.B,12,none⟩ v).heap.size:=Nat.le_trans hg.size hc.size;have key:∀k,k<w.heap.size->k≠t.B->t.vW.ownBlock≠some k->(w'.setCell ⟨t.B,12,none⟩ v).heap[k]? =w.heap[k]? :=fun k h1 h2 h3=>(hc.block k (Nat.lt_of_lt_of_le h1 hg.size) h2).trans (hg.block k h1 (fun e=>h3 e.symm));have hLo:∀k,t.vW.ownBlock=some k->N<=k:=fun k e=>h.lo k (.inr (.inr (.inr (.inl e))));have hN:∀k,k<N->(w'.setCell ⟨t.B,12,none⟩ v).heap[k]? =w.heap[k]? :=fun k hk=>key k (Nat.lt_of_lt_of_le hk hbig) (by have:=h.loB;omega) (fun e=>by have:=hLo k e;omega);have hty:∀k u,cu w k u->u≠40->u≠46->(w'.setCell ⟨t.B,12,none⟩ v).heap[k]? =w.heap[k]? :=fun k u hk h1 h2=>key k hk.lt (hk.ne hB h1) (fun e=>hk.ne (a4.ty k e) h2 rfl);have hsp:aE w (w'.setCell ⟨t.B,12,none⟩ v):=fun b hb=>hty b _ hb (by decide) (by decide);have hl:Below dZ w (w'.setCell ⟨t.B,12,none⟩ v):=⟨hc.os.trans hg.os,hc.tape.trans hg.tape,hc.output.trans hg.output,hsz,fun k hk=>hN k (Nat.lt_of_lt_of_le hk h.top)⟩
 have hsub:∀k,Ft.D { t with vW:=v } k->t.D k\/w.heap.size<=k:=by
  intro k hk
  rcases hk with hk | hk | hk | hk | hk
  ·exact .inl (.inl hk)
  ·exact .inl (.inr (.inl hk))
  ·exact .inl (.inr (.inr (.inl hk)))
  ·exact(hb k hk).imp (fun e=>.inr (.inr (.inr (.inl e)))) id
  exact .inl (.inr (.inr (.inr (.inr hk))))
 refine⟨⟨?_,?_,?_,h.dis,?_,?_,?_,fatKeep h.fat hN,fun k hk=> ?_,h.top⟩,⟨hl.os,hl.tape,hl.output,hsz,fun k hk hd=>key k hk (fun e=>hd (.inl e)) (fun e=>hd (.inr (.inr (.inr (.inl e))))),hsp⟩,hsub,rfl,⟨rfl,rfl,rfl⟩⟩
 ·rw[heap_setCell_same _ _ _ _ _ _ (a1.trans h.blk)];rfl
 ·exact h.a.keep hl hsz hsp (hty _ _ h.a.tyC (by decide) (by decide)) (hty _ _ h.a.tyS (by decide) (by decide)) (hty _ _ h.a.tyT (by decide) (by decide)) (hty _ _ h.a.tyG (by decide) (by decide)) (hty _ _ h.a.tyX (by decide) (by decide)) (hty _ _ h.a.tyR (by decide) (by decide))
 ·exact h.b.keep hl hsz hsp (hty _ _ h.b.tyC (by decide) (by decide)) (hty _ _ h.b.tyS (by decide) (by decide)) (hty _ _ h.b.tyT (by decide) (by decide)) (hty _ _ h.b.tyG (by decide) (by decide)) (hty _ _ h.b.tyX (by decide) (by decide)) (hty _ _ h.b.tyR (by decide) (by decide))
 ·exact⟨L,rfl,hv.keep hc.size (fun b hb=>hc.block b hb.lt (hb.ne (hB.of a1) (by decide))) (fun k e=>hc.block k (hv.lt k e).2 ((hv.ty k e).ne (hB.of a1) (by decide)))⟩
 ·obtain⟨M,e,hM⟩:=h.log;exact⟨M,e,hM.keep hsz hsp (fun k e=>key k (hM.lt k e).2 ((hM.ty k e).ne hB (by decide)) (fun e2=>h.ne k e2 e))⟩
 ·intro k e e2
  rcases hb k e with h1 | h1
  ·exact h.ne k h1 e2
  have:=(h.inL k e2).1;omega
 rcases hsub k hk with h1 | h1
 ·exact h.lo k h1
 exact Nat.le_trans hbig h1
end PrAt
end
section
open Go.RowKit Go.Shelf
namespace PrSt
variable {N : Nat} {t t1 : Ft} {q q' : Pr} {w W W' : World}
theorem cell (h:PrSt N t w t1 q W)(i:Nat)(v:Value)(hv:(dD t1 q)[i]? =some v):W.cell? ⟨t.B,i,none⟩=some v:=by rw[<-h.eB];exact h.pa.cell i v hv
theorem free (h:PrSt N t w t1 q W)(i:Nat):W.frozen? ⟨t.B,i,none⟩=false:=by rw[<-h.eB];exact h.pa.free i
theorem bel (h:PrSt N t w t1 q W)(hb:Below W.heap.size W W'):PrSt N t w t1 q W':=h.trans (h.pa.bel hb)
theorem set (h:PrSt N t w t1 q W)(i:Nat)(v:Value)(q':Pr)(he:(dD t1 q).setIfInBounds i v=dD t1 q')(e1:q'.a.c=q.a.c)(e2:q'.b.c=q.b.c)(e3:q'.wire=q.wire)(e4:q'.log=q.log)(e5:q'.fates=q.fates):PrSt N t w t1 q' (W.setCell ⟨t.B,i,none⟩ v):=by
 rw[<-h.eB];exact h.trans (h.pa.set i v q' he e1 e2 e3 e4 e5)
theorem setL (h:PrSt N t w t1 q W)(v:Value)(L:List bG)(hg:W.grownBy W' t1.vL.ownBlock)(hv:bM W' N v L)(hb:∀k,v.ownBlock=some k->t1.vL.ownBlock=some k\/W.heap.size<=k):PrSt N t w { t1 with vL:=v } { q with log:=L.map (·.1) } (W'.setCell ⟨t.B,16,none⟩ v):=by
 rw[<-h.eB];exact h.trans (h.pa.setL v L hg hv hb)
theorem setW (h:PrSt N t w t1 q W)(v:Value)(L:List bG)(hg:W.grownBy W' t1.vW.ownBlock)(hv:bM W' N v L)(hb:∀k,v.ownBlock=some k->t1.vW.ownBlock=some k\/W.heap.size<=k):PrSt N t w { t1 with vW:=v } { q with wire:=L.map (·.1) } (W'.setCell ⟨t.B,12,none⟩ v):=by
 rw[<-h.eB];exact h.trans (h.pa.setW v L hg hv hb)
theorem size (h:PrSt N t w t1 q W):w.heap.size<=W.heap.size:=h.fr.size
end PrSt
theorem aN.free {B:Nat}{x:bG}{W:World}(h:aN B x W)(i:Nat):W.frozen? ⟨B,i,none⟩=false:=frozen_of_row _ _ _ _ _ h
structure Pst (N:Nat)(t:Ft)(w:World)(F:Nat)(x:bG)(t1:Ft)(q:Pr)(W:World):Prop where
 st:PrSt N t w t1 q W
 row:aN F x W
 nd:¬t1.D F
 bl:au W x.2.1 x.1.s.bl
 lo:w.heap.size<=F
 hN:N<=F
namespace Pst
variable {N F : Nat} {x y : bG} {t t1 t2 : Ft} {q q' : Pr} {w W W' : World}
theorem bel (h:Pst N t w F x t1 q W)(hb:Below W.heap.size W W'):Pst N t w F x t1 q W':=⟨h.st.bel hb,h.row.below hb,h.nd,h.bl.keep hb.size (.below hb),h.lo,h.hN⟩
theorem new (h:PrSt N t w t1 q W)(hb:au W x.2.1 x.1.s.bl):Pst N t w W.heap.size x t1 q (W.alloc (.cells (ct x).toArray 46)):=by
 have hb0:=(Below.refl W.heap.size W).alloc (Nat.le_refl _) (.cells (ct x).toArray 46);exact⟨h.bel hb0,aN.new _ _,fun e=>Nat.lt_irrefl _ (h.pa.inD _ e).1,hb.keep hb0.size (.below hb0),h.size,h.pa.big⟩
theorem step (h:Pst N t w F x t1 q W)(k:PrSt N t1 W t2 q' W'):Pst N t w F x t2 q' W' :=
 ⟨h.st.trans k,(k.fr.block F h.row.lt h.nd).trans h.row,fun e=>by
  rcases k.sub F e with h1 | h1
  ·exact h.nd h1
  ·exact Nat.lt_irrefl _ (Nat.lt_of_lt_of_le h.row.lt h1),h.bl.keep k.fr.size k.fr.sp,h.lo,h.hN⟩
theorem set (h:Pst N t w F x t1 q W)(i:Nat)(v:Value)(q':Pr)(he:(dD t1 q).setIfInBounds i v=dD t1 q')(e1:q'.a.c=q.a.c)(e2:q'.b.c=q.b.c)(e3:q'.wire=q.wire)(e4:q'.log=q.log)(e5:q'.fates=q.fates):Pst N t w F x t1 q' (W.setCell ⟨t.B,i,none⟩ v):=by
 rw[<-h.st.eB];exact h.step (h.st.pa.set i v q' he e1 e2 e3 e4 e5)
theorem log (h:Pst N t w F x t1 q W)(v:Value)(L:List bG)(hg:W.grownBy W' t1.vL.ownBlock)(hv:bM W' N v L)(hb:∀k,v.ownBlock=some k->t1.vL.ownBlock=some k\/W.heap.size<=k):Pst N t w F x { t1 with vL:=v } { q with log:=L.map (·.1) } (W'.setCell ⟨t.B,16,none⟩ v):=by
 rw[<-h.st.eB];exact h.step (h.st.pa.setL v L hg hv hb)
theorem wire (h:Pst N t w F x t1 q W)(v:Value)(L:List bG)(hg:W.grownBy W' t1.vW.ownBlock)(hv:bM W' N v L)(hb:∀k,v.ownBlock=some k->t1.vW.ownBlock=some k\/W.heap.size<=k):Pst N t w F x { t1 with vW:=v } { q with wire:=L.map (·.1) } (W'.setCell ⟨t.B,12,none⟩ v):=by
 rw[<-h.st.eB];exact h.step (h.st.pa.setW v L hg hv hb)
theorem setF (h:Pst N t w F x t1 q W)(i:Nat)(v:Value)(he:(ct x).toArray.setIfInBounds i v=(ct y).toArray)(hy:y.2=x.2/\y.1.s=x.1.s):Pst N t w F y t1 q (W.setCell ⟨F,i,none⟩ v):=by
 have hc:Chg F W (W.setCell ⟨F,i,none⟩ v):=(Chg.refl _ _).setCell i v;have hk:aE W (W.setCell ⟨F,i,none⟩ v):=.chg hc h.row.ty (by decide);have hf:PrFr (fun k=>k=F) W (W.setCell ⟨F,i,none⟩ v):=⟨hc.os,hc.tape,hc.output,hc.size,fun k hk hd=>hc.block k hk hd,hk⟩;exact⟨⟨h.st.pa.apart hf (fun k e=>by subst e;exact⟨h.hN,h.nd⟩),h.st.fr.trans hf (fun k e=>.inr (by subst e;exact h.lo)),h.st.sub,h.st.eB,h.st.eC⟩,h.row.set i v he,h.nd,by rw[hy.1,hy.2];exact h.bl.keep hc.size hk,h.lo,h.hN⟩
theorem grownL (h:Pst N t w F x t1 q W)(hg:W.grownBy W' t1.vL.ownBlock):W'.heap[t.B]? =W.heap[t.B]? /\W'.heap[F]? =W.heap[F]? :=by
 have hB:=h.st.pa.tyP;rw[h.st.eB]at hB;exact⟨hg.block _ hB.lt (fun e=>(h.st.pa.inL _ e.symm).2.ne hB (by decide) rfl),hg.block _ h.row.lt (fun e=>h.nd (.inr (.inr (.inr (.inr e.symm)))))⟩
theorem grownW (h:Pst N t w F x t1 q W)(hg:W.grownBy W' t1.vW.ownBlock):W'.heap[t.B]? =W.heap[t.B]? /\W'.heap[F]? =W.heap[F]? :=by
 have hB:=h.st.pa.tyP;rw[h.st.eB]at hB;exact⟨hg.block _ hB.lt (fun e=>(h.st.pa.inW _ e.symm).2.ne hB (by decide) rfl),hg.block _ h.row.lt (fun e=>h.nd (.inr (.inr (.inr (.inl e.symm)))))⟩
end Pst
theorem PrAt.notD {N:Nat}{t:Ft}{p:Pr}{w:World}{k:Nat}{u:TypeId}(h:PrAt N t p w)(hk:cu w k u)(h0:u≠40)(h1:u≠104)(h2:u≠171)(h3:u≠147)(h4:u≠168)(h5:u≠156)(h6:u≠5)(h7:u≠46):¬t.D k:=by
 intro e
 rcases e with rfl | e | e | e | e
 ·exact hk.ne h.tyP h0 rfl
 ·rcases e with rfl | rfl | rfl | rfl | rfl | rfl
  ·exact hk.ne h.a.tyC h1 rfl
  ·exact hk.ne h.a.tyS h2 rfl
  ·exact hk.ne h.a.tyT h3 rfl
  ·exact hk.ne h.a.tyG h4 rfl
  ·exact hk.ne h.a.tyX h5 rfl
  exact hk.ne h.a.tyR h6 rfl
 ·rcases e with rfl | rfl | rfl | rfl | rfl | rfl
  ·exact hk.ne h.b.tyC h1 rfl
  ·exact hk.ne h.b.tyS h2 rfl
  ·exact hk.ne h.b.tyT h3 rfl
  ·exact hk.ne h.b.tyG h4 rfl
  ·exact hk.ne h.b.tyX h5 rfl
  exact hk.ne h.b.tyR h6 rfl
 ·exact hk.ne (h.inW _ e).2 h7 rfl
 exact hk.ne (h.inL _ e).2 h7 rfl
theorem aJ.prFr {N:Nat}{t:Ft}{p:Pr}{w w':World}{base:Nat}{v:Value}{l:List Sg}(h:aJ w base v l)(hp:PrAt N t p w)(hf:PrFr t.D w w'):aJ w' base v l:=by
 obtain⟨M,e,h⟩:=h;exact⟨M,e,h.keep hf.size hf.sp (fun k e=>hf.block k (h.lt k e).2 (hp.notD (h.ty k e) (by decide) (by decide) (by decide) (by decide) (by decide) (by decide) (by decide) (by decide)))⟩
end
section
open Go.RowKit Go.Shelf
def nz (W:World)(B:Nat)(x:bG):World:=((((((((((((((((W.setCell B (bI x.1.dst)).setCell ⟨B,1,none⟩ x.1.due).setCell ⟨B,2,none⟩ x.1.held).setCell ⟨B,3,none⟩ x.1.s.fp).setCell ⟨B,4,none⟩ x.1.s.tp).setCell ⟨B,5,none⟩ x.1.s.sq).setCell ⟨B,6,none⟩ x.1.s.ak).setCell ⟨B,7,none⟩ x.1.s.syn).setCell ⟨B,8,none⟩ x.1.s.fin).setCell ⟨B,9,none⟩ x.1.s.rst).setCell ⟨B,10,none⟩ x.1.s.has).setCell ⟨B,11,none⟩ x.1.s.win).setCell ⟨B,12,none⟩ x.1.s.mss).setCell ⟨B,13,none⟩ x.1.s.sacks).setCell ⟨B,14,none⟩ (.slice x.2.1 x.1.s.bl.length x.2.2)).setCell ⟨B,15,none⟩ (.string ⟨x.1.s.s.toArray⟩))
theorem rS (W:World)(B:Nat)(x:bG):Chg B W (nz W B x):=(((((((((((((((((Chg.refl B W).setCell 0 _).setCell 1 _).setCell 2 _).setCell 3 _).setCell 4 _).setCell 5 _).setCell 6 _).setCell 7 _).setCell 8 _).setCell 9 _).setCell 10 _).setCell 11 _).setCell 12 _).setCell 13 _).setCell 14 _).setCell 15 _)
theorem bT {B:Nat}{vs:Array Value}{W:World}(h:W.heap[B]? =some (.cells vs 46 (0,0)))(i:Nat)(v:Value):(W.setCell ⟨B,i,none⟩ v).heap[B]? =some (.cells (vs.setIfInBounds i v) 46 (0,0)):=heap_setCell_same _ _ _ _ _ _ h
theorem aN.put {B:Nat}{x y:bG}{W:World}(h:aN B x W):aN B y (nz W B y):=by
 have:=(bT (bT (bT (bT (bT (bT (bT (bT (bT (bT (bT (bT (bT (bT (bT (bT h 0 (bI y.1.dst)) 1 y.1.due) 2 y.1.held) 3 y.1.s.fp) 4 y.1.s.tp) 5 y.1.s.sq) 6 y.1.s.ak) 7 y.1.s.syn) 8 y.1.s.fin) 9 y.1.s.rst) 10 y.1.s.has) 11 y.1.s.win) 12 y.1.s.mss) 13 y.1.s.sacks) 14 (.slice y.2.1 y.1.s.bl.length y.2.2)) 15 (.string ⟨y.1.s.s.toArray⟩));simp only[ct,aW,List.setIfInBounds_toArray,List.set_cons_zero,List.set_cons_succ]at this;exact this
theorem wC {W:World}{B:Nat}{v0 v1 v2 v3 v4 v5 v6 v7 v8 v9 v10 v11 v12 v13 v14 v15:Value}:Chg B W ((((((((((((((((W.setCell B (v0)).setCell ⟨B,1,none⟩ (v1)).setCell ⟨B,2,none⟩ (v2)).setCell ⟨B,3,none⟩ (v3)).setCell ⟨B,4,none⟩ (v4)).setCell ⟨B,5,none⟩ (v5)).setCell ⟨B,6,none⟩ (v6)).setCell ⟨B,7,none⟩ (v7)).setCell ⟨B,8,none⟩ (v8)).setCell ⟨B,9,none⟩ (v9)).setCell ⟨B,10,none⟩ (v10)).setCell ⟨B,11,none⟩ (v11)).setCell ⟨B,12,none⟩ (v12)).setCell ⟨B,13,none⟩ (v13)).setCell ⟨B,14,none⟩ (v14)).setCell ⟨B,15,none⟩ (v15)):=(((((((((((((((((Chg.refl B W).setCell 0 _).setCell 1 _).setCell 2 _).setCell 3 _).setCell 4 _).setCell 5 _).setCell 6 _).setCell 7 _).setCell 8 _).setCell 9 _).setCell 10 _).setCell 11 _).setCell 12 _).setCell 13 _).setCell 14 _).setCell 15 _)
def xX (B:Nat)(x:bG)(W:World):Prop:=W.cell? B=some (bI x.1.dst:Y)/\W.cell? ⟨B,1,none⟩=some (x.1.due:Y)/\W.cell? ⟨B,2,none⟩=some (x.1.held:Y)/\W.cell? ⟨B,3,none⟩=some (x.1.s.fp:Y)/\W.cell? ⟨B,4,none⟩=some (x.1.s.tp:Y)/\W.cell? ⟨B,5,none⟩=some (x.1.s.sq:Y)/\W.cell? ⟨B,6,none⟩=some (x.1.s.ak:Y)/\W.cell? ⟨B,7,none⟩=some (x.1.s.syn:Y)/\W.cell? ⟨B,8,none⟩=some (x.1.s.fin:Y)/\W.cell? ⟨B,9,none⟩=some (x.1.s.rst:Y)/\W.cell? ⟨B,10,none⟩=some (x.1.s.has:Y)/\W.cell? ⟨B,11,none⟩=some (x.1.s.win:Y)/\W.cell? ⟨B,12,none⟩=some (x.1.s.mss:Y)/\W.cell? ⟨B,13,none⟩=some (x.1.s.sacks:Y)/\W.cell? ⟨B,14,none⟩=some (.slice x.2.1 x.1.s.bl.length x.2.2)/\W.cell? ⟨B,15,none⟩=some (.string ⟨x.1.s.s.toArray⟩)
theorem aN.all {B:Nat}{x:bG}{W:World}(h:aN B x W):xX B x W:=⟨h.cell 0 _ rfl,h.cell 1 _ rfl,h.cell 2 _ rfl,h.cell 3 _ rfl,h.cell 4 _ rfl,h.cell 5 _ rfl,h.cell 6 _ rfl,h.cell 7 _ rfl,h.cell 8 _ rfl,h.cell 9 _ rfl,h.cell 10 _ rfl,h.cell 11 _ rfl,h.cell 12 _ rfl,h.cell 13 _ rfl,h.cell 14 _ rfl,h.cell 15 _ rfl⟩
theorem aN.range {B:Nat}{x:bG}{W:World}(h:aN B x W):W.rangeAt B 0 (ct x):=fun j v hj=>by rw[Nat.zero_add];exact h.cell j v hj
theorem ci:(Tryz.prog.info? 46).map (·.size)=some 16:=by obtain⟨i0,hi,-,hz,-⟩:=info_parts pJ;rw[hi];exact congrArg some hz
theorem jq:(Tryz.prog.info? 43).map (·.size)=some 13:=by kernel_rfl
def wh (b:Nat)(now:Int)(g k:Nat)(x:bp)(W:World):Prop:=W.cell? ⟨b,13,none⟩=some (now:Y)/\W.rangeAt g (k*13) (aW x)
theorem wh.keep {b:Nat}{now:Int}{g k:Nat}{x:bp}{W W':World}(h:wh b now g k x W)(h1:W'.heap[g]? =W.heap[g]?)(h2:W'.heap[b]? =W.heap[b]?):wh b now g k x W' :=
 ⟨(World.cell?_of_block (a:=⟨b,13,none⟩) h2).trans h.1,fun j v hj=>(World.cell?_of_block (a:=⟨g,k*13+j,none⟩) h1).trans (h.2 j v hj)⟩
theorem wh.ofQ {b:Nat}{now:Int}{g k:Nat}{x:bp}{w W:World}(h:W.cell? ⟨b,13,none⟩=some (now:Y))(hq:∀j,j<13->∀u,(aW x)[j]? =some u->w.cell? ⟨g,k*13+j,none⟩=some u)(h1:W.heap[g]? =w.heap[g]?):wh b now g k x W :=
 ⟨h,fun j v hj=>(World.cell?_of_block (a:=⟨g,k*13+j,none⟩) h1).trans (hq j (by have:=(List.getElem?_eq_some_iff.1 hj).1;exact this) v hj)⟩
def xt:bG:=(⟨false,0,false,dg⟩,none,0)
theorem oA (i:Bool):∀(l:List Sg) (p:Pr),(p.put i l).many=p.many+l.length:=by
 intro l
 induction l with
 | nil=>intro p;rfl
 | cons s l ih=>intro p;exact(ih (p.put1 i s)).trans (by show p.many+1+l.length=p.many+(l.length+1);omega)
theorem ix (i:Bool):∀(l:List Sg) (p:Pr),(p.put i l).log.length=p.log.length+l.length/\(p.put i l).wire.length<=p.wire.length+2*l.length:=by
 intro l
 induction l with
 | nil=>intro p;exact⟨rfl,Nat.le_refl _⟩
 | cons s l ih =>
  intro p;obtain⟨h1,h2⟩:=ih (p.put1 i s);have e:(p.put1 i s).log.length=p.log.length+1:=by unfold Pr.put1;dsimp only;rw[List.length_append];rfl
  have e2:(p.put1 i s).wire.length<=p.wire.length+2:=by
   unfold Pr.put1;dsimp only;rw[List.length_append];have:(p.addW (p.fl i s)).length<=2:=by unfold Pr.addW;(repeat' split) <;> simp
   omega
  exact⟨h1.trans (by rw[e,List.length_cons];omega),by rw[List.length_cons];have h3:(p.put i (s::l)).wire.length=((p.put1 i s).put i l).wire.length:=rfl;omega⟩
theorem de (i:Bool):∀(l:List Sg) (p:Pr),(p.put i l).a=p.a/\(p.put i l).b=p.b/\(p.put i l).now=p.now/\(p.put i l).fates=p.fates:=by
 intro l
 induction l with
 | nil=>intro p;exact⟨rfl,rfl,rfl,rfl⟩
 | cons s l ih=>intro p;exact ih (p.put1 i s)
theorem uF (p:Pr)(i:Bool)(l:List Sg)(s:Sg):p.put i (l++[s])=(p.put i l).put1 i s:=by unfold Pr.put;rw[List.foldl_append];rfl
theorem Pst.putF {N F:Nat}{x y:bG}{t t1:Ft}{q:Pr}{w W:World}(h:Pst N t w F x t1 q W)(hy:au W y.2.1 y.1.s.bl):Pst N t w F y t1 q (nz W F y):=by
 have hc:=rS W F y;have hk:aE W (nz W F y):=.chg hc h.row.ty (by decide);have hf:PrFr (fun k=>k=F) W (nz W F y):=⟨hc.os,hc.tape,hc.output,hc.size,fun k hk hd=>hc.block k hk hd,hk⟩;exact⟨⟨h.st.pa.apart hf (fun k e=>by subst e;exact⟨h.hN,h.nd⟩),h.st.fr.trans hf (fun k e=>.inr (by subst e;exact h.lo)),h.st.sub,h.st.eB,h.st.eC⟩,h.row.put,h.nd,hy.keep hc.size hk,h.lo,h.hN⟩
theorem Pst.eqQ {N F:Nat}{x:bG}{t t1:Ft}{q q':Pr}{w W:World}(h:Pst N t w F x t1 q W)(e:q'=q):Pst N t w F x t1 q' W:=e ▸ h
def Pr.lg (q:Pr)(i:Bool)(s:Sg):Pr:={ q with many:=q.many+1,log:=q.log++[q.fl i s] }
theorem iy (q:Pr)(i:Bool)(s:Sg)(L:List Fl)(h:q.addW (q.fl i s)=L):q.put1 i s={ q.lg i s with wire:=q.wire++L }:=by rw[<-h];rfl
def jI (N:Nat)(t:Ft)(w:World)(p:Pr)(e:Ending)(w':World):Prop:=e= .returned (.tuple #[])/\wB N t w p w'
end
section
open Go.RowKit Go.Shelf
def uG (mb:Nat)(ba bb:Bool)(W:World):Prop:=W.heap[mb]? =some (.cells #[ba,bb] 149 (0,0))
structure Dl (N:Nat)(t:Ft)(w:World)(t1:Ft)(q:Pr)(D L:List bG)(v2 v3:Value)(mb:Nat)(ba bb:Bool)(W:World):Prop where
 st:PrSt N t w t1 q W
 d:bM W N v2 D
 l:bM W N v3 L
 ne:∀k,v2.ownBlock=some k->v3.ownBlock≠some k
 nd:∀k,v2.ownBlock=some k->¬t1.D k/\w.heap.size<=k
 nl:∀k,v3.ownBlock=some k->¬t1.D k/\w.heap.size<=k
 met:uG mb ba bb W
 nm:¬t1.D mb/\w.heap.size<=mb
 hw:N<=w.heap.size
theorem bM.val' {w:World}{N:Nat}{v:Value}{L:List bG}(h:bM w N v L):∃a cap,v= .slice a L.length cap:=by
 obtain⟨a,cap,h1,-⟩:=h.val;exact⟨a,cap,h1⟩
namespace Dl
variable {N : Nat} {t t1 t2 : Ft} {q q' : Pr} {D L : List bG} {v2 v3 v : Value} {mb : Nat} {ba bb : Bool} {w W W' : World}
theorem start {p:Pr}(h:PrAt N t p w):Dl N t w t p [] [] (.slice none 0 0) (.slice none 0 0) w.heap.size false false (w.alloc (.cells #[false,false] 149)) :=
 ⟨h.alloc _,bM.nil _ _,bM.nil _ _,(fun _ h=>nomatch h),(fun _ h=>nomatch h),(fun _ h=>nomatch h),heap_alloc_new _ _,⟨fun e=>Nat.lt_irrefl _ (h.inD _ e).1,Nat.le_refl _⟩,h.big⟩
theorem mlt (h:Dl N t w t1 q D L v2 v3 mb ba bb W):mb<W.heap.size:=(Array.getElem?_eq_some_iff.1 h.met).1
theorem mty (h:Dl N t w t1 q D L v2 v3 mb ba bb W):cu W mb 149:=⟨_,_,h.met⟩
theorem bel (h:Dl N t w t1 q D L v2 v3 mb ba bb W)(hb:Below W.heap.size W W'):Dl N t w t1 q D L v2 v3 mb ba bb W' :=
 ⟨h.st.bel hb,h.d.below hb,h.l.below hb,h.ne,h.nd,h.nl,(hb.block _ h.mlt).trans h.met,h.nm,h.hw⟩
theorem pair (h:Dl N t w t1 q D L v2 v3 mb ba bb W)(k:PrSt N t1 W t2 q' W'):Dl N t w t2 q' D L v2 v3 mb ba bb W':=by
 have nn:∀x,x<W.heap.size->¬t1.D x->¬t2.D x:=fun x hx hd e=>by
  rcases k.sub x e with h1 | h1
  ·exact hd h1
  omega
 exact⟨h.st.trans k,h.d.keep k.fr.size k.fr.sp (fun x e=>k.fr.block x (h.d.lt x e).2 (h.nd x e).1),h.l.keep k.fr.size k.fr.sp (fun x e=>k.fr.block x (h.l.lt x e).2 (h.nl x e).1),h.ne,fun x e=>⟨nn x (h.d.lt x e).2 (h.nd x e).1,(h.nd x e).2⟩,fun x e=>⟨nn x (h.l.lt x e).2 (h.nl x e).1,(h.nl x e).2⟩,(k.fr.block mb h.mlt h.nm.1).trans h.met,⟨nn mb h.mlt h.nm.1,h.nm.2⟩,h.hw⟩
theorem wD (hg:W.grownBy W' v.ownBlock)(ho:bM W N v D):PrFr (fun k=>v.ownBlock=some k) W W':=⟨hg.os,hg.tape,hg.output,hg.size,fun k hk hd=>hg.block k hk (fun e=>hd e.symm),ho.spanKept hg⟩
theorem xu (h:PrSt N t w t1 q W)(ho:bM W N v D)(hn:∀k,v.ownBlock=some k->¬t1.D k/\w.heap.size<=k)(hg:W.grownBy W' v.ownBlock):PrSt N t w t1 q W' :=
 ⟨h.pa.apart (wD hg ho) (fun k e=>⟨(ho.lt k e).1,(hn k e).1⟩),h.fr.trans (wD hg ho) (fun k e=>.inr (hn k e).2),h.sub,h.eB,h.eC⟩
theorem xv (h:PrSt N t w t1 q W)(k:Nat)(hk:t1.D k):k<W.heap.size:=(h.pa.inD k hk).1
theorem app2 (h:Dl N t w t1 q D L v2 v3 mb ba bb W){x:bG}(ho:bM W' N v (D++[x]))(hg:W.grownBy W' v2.ownBlock)(hb:v.ownBlock=v2.ownBlock\/∃k,v.ownBlock=some k/\W.heap.size<=k):Dl N t w t1 q (D++[x]) L v v3 mb ba bb W':=by
 have hs:=h.st.size;refine⟨xu h.st h.d h.nd hg,ho,h.l.keep hg.size (h.d.spanKept hg) (fun k e=>hg.block k (h.l.lt k e).2 (fun e2=>h.ne k e2.symm e)),fun k e=> ?_,fun k e=> ?_,h.nl,(hg.block mb h.mlt (fun e=>h.mty.ne (h.d.ty mb e.symm) (by decide) rfl)).trans h.met,h.nm,h.hw⟩
 ·rcases hb with e2 | ⟨k2,e2,h2⟩
  ·exact h.ne k (e2 ▸ e)
  rw[e2]at e
  cases e
  exact fun e3=>by have:=(h.l.lt _ e3).2;omega
 rcases hb with e2 | ⟨k2,e2,h2⟩
 ·exact h.nd k (e2 ▸ e)
 rw[e2]at e
 cases e
 exact⟨fun e3=>by have:=xv h.st _ e3;omega,by omega⟩
theorem app3 (h:Dl N t w t1 q D L v2 v3 mb ba bb W){x:bG}(ho:bM W' N v (L++[x]))(hg:W.grownBy W' v3.ownBlock)(hb:v.ownBlock=v3.ownBlock\/∃k,v.ownBlock=some k/\W.heap.size<=k):Dl N t w t1 q D (L++[x]) v2 v mb ba bb W':=by
 have hs:=h.st.size;refine⟨xu h.st h.l h.nl hg,h.d.keep hg.size (h.l.spanKept hg) (fun k e=>hg.block k (h.d.lt k e).2 (fun e2=>h.ne k e e2.symm)),ho,fun k e=> ?_,h.nd,fun k e=> ?_,(hg.block mb h.mlt (fun e=>h.mty.ne (h.l.ty mb e.symm) (by decide) rfl)).trans h.met,h.nm,h.hw⟩
 ·rcases hb with e2 | ⟨k2,e2,h2⟩
  ·rw[e2];exact h.ne k e
  rw[e2];intro e3
  cases e3
  have:=(h.d.lt _ e).2;omega
 rcases hb with e2 | ⟨k2,e2,h2⟩
 ·exact h.nl k (e2 ▸ e)
 rw[e2]at e
 cases e
 exact⟨fun e3=>by have:=xv h.st _ e3;omega,by omega⟩
theorem flag (h:Dl N t w t1 q D L v2 v3 mb ba bb W)(i:Nat)(u:Value)(xa xb:Bool)(he:(#[ba,bb]:Array Value).setIfInBounds i u= #[(xa:Y),xb]):Dl N t w t1 q D L v2 v3 mb xa xb (W.setCell ⟨mb,i,none⟩ u):=by
 have hc:Chg mb W (W.setCell ⟨mb,i,none⟩ u):=(Chg.refl _ _).setCell i u;have hk:aE W (W.setCell ⟨mb,i,none⟩ u):=.chg hc h.mty (by decide);have hf:PrFr (fun k=>k=mb) W (W.setCell ⟨mb,i,none⟩ u):=⟨hc.os,hc.tape,hc.output,hc.size,fun k hk hd=>hc.block k hk hd,hk⟩;have hN:N<=mb:=Nat.le_trans h.hw h.nm.2;refine⟨⟨h.st.pa.apart hf (fun k e=>by subst e;exact⟨hN,h.nm.1⟩),h.st.fr.trans hf (fun k e=>.inr (by subst e;exact h.nm.2)),h.st.sub,h.st.eB,h.st.eC⟩,h.d.keep hc.size hk (fun k e=>hc.block k (h.d.lt k e).2 ((h.d.ty k e).ne h.mty (by decide))),h.l.keep hc.size hk (fun k e=>hc.block k (h.l.lt k e).2 ((h.l.ty k e).ne h.mty (by decide))),h.ne,h.nd,h.nl,?_,h.nm,h.hw⟩;unfold uG;rw[heap_setCell_same _ _ _ _ _ _ h.met,he]
theorem eqQ (h:Dl N t w t1 q D L v2 v3 mb ba bb W)(e:q'=q):Dl N t w t1 q' D L v2 v3 mb ba bb W:=e ▸ h
theorem pst (h:Dl N t w t1 q D L v2 v3 mb ba bb W){F:Nat}{x:bG}(hF:aN F x W)(hb:au W x.2.1 x.1.s.bl)(h1:w.heap.size<=F)(h2:¬t1.D F):Pst N t w F x t1 q W:=⟨h.st,hF,h2,hb,h1,Nat.le_trans h.hw h1⟩
theorem cellM (h:Dl N t w t1 q D L v2 v3 mb ba bb W)(i:Nat)(u:Value)(hu:(#[ba,bb]:Array Value)[i]? =some u):W.cell? ⟨mb,i,none⟩=some u:=by rw[cell_of_row _ _ _ _ _ _ h.met];exact hu
theorem freeM (h:Dl N t w t1 q D L v2 v3 mb ba bb W)(i:Nat):W.frozen? ⟨mb,i,none⟩=false:=frozen_of_row _ _ _ _ _ h.met
end Dl
theorem bM.at {w:World}{N:Nat}{v:Value}{M:List bG}(h:bM w N v M){k:Nat}(hk:k<M.length) :
  ∃g cap,v= .slice (some ⟨g,0,none⟩) M.length cap/\g<w.heap.size/\∀j,j<16->∀u,(ct M[k])[j]? =some u->w.cell? ⟨g,k*16+j,none⟩=some u:=by
 obtain⟨g,cap,hv,hb,hg,hc,hcs⟩:=h.cells (by omega);exact⟨g,cap,hv,hg,fun j hj u hu=>by have:=hcs (k*16+j) u (by rw[rR M k hk j hj];exact hu);rwa [Addr.add_lit,Nat.zero_add]at this⟩
theorem oB {w:World}{g k:Nat}{x:bG}(h:∀j,j<16->∀u,(ct x)[j]? =some u->w.cell? ⟨g,k*16+j,none⟩=some u):w.rangeAt g (k*16) (ct x):=fun j v hj=>h j (by have:=(List.getElem?_eq_some_iff.1 hj).1;exact this) v hj
theorem pK {w:World}{b:Nat}{t:TypeId}{fr:Nat×Nat}{x:bG}(h:w.heap[b]? =some (.cells (ct x).toArray t fr)):∀j u,(bE [x])[j]? =some u->w.cell? ((⟨b,0,none⟩:Addr).add j)=some u:=by
 intro j u hj;rw[Addr.add_lit,Nat.zero_add,cell_of_row _ _ _ _ _ _ h]
 simpa[bE]using hj
end
end Go.Proofs.YtclkcmidhhfdmaaGreatDoor
