import Derived.Test.YtclkcmidhhfdmaaGreatDoorUb23
namespace Go.Proofs.YtclkcmidhhfdmaaGreatDoor
open Lib (hid)
section
set_option maxHeartbeats 8000000
set_option maxRecDepth 100000
open Go.RowKit Go.Shelf
attribute [local go_sem] Oper.semAt_some
theorem tZ {s:Sc}(ok:s.Ok){m:Int}(hm:1<=m):(s.lost m).length<=1099511627776:=by
 have h:=(bq ok hm).1;have h1:=aL h;have h2:=oZ h;omega
def t7 (c:Cn):Prop:=¬(c.sc.pipe c.mss<c.cg.win/\c.sc.lost c.mss≠[])
theorem rI {σ:Type} (st:σ->Cn) (ms:σ->Nat) (n:Nat) (hn:1<=n) (l C:Nat) (f:Fp) (J:σ->World->Prop) (Jx:World->Prop)
  (hJ:∀s W,J s W->CnAt f (st s) W/\(st s).Ok/\W.cell? C=some (f.C:Y))
  (hJB:∀s W W',J s W->Below W.heap.size W W'->J s W')
  (hY:∀s x t W,J s W->(st s).sc.pipe (st s).mss<(st s).cg.win->(st s).sc.lost (st s).mss=x::t->YieldAt Fence.wide (n-1) Tryz.prog l #[.agg #[x.1,(aS (st s).mss x).2]] W fun e W' =>
   (e= .returned true/\∃s',ms s'<ms s/\J s' W')\/(e= .returned false/\Jx W'))
  (w:World) (s0:σ) (h0:J s0 w) :
  CallsIn Fence.wide n Tryz.prog 197 #[.func (.yield l) #[] #[],C] w fun e W'=>(∃v,e= .returned v)/\((∃s,J s W'/\t7 (st s))\/Jx W'):=by
 have HJ:=hid hJ;have aF:=hid hJB;have HY:=hid hY;have bI:=hid h0;clear hJ hJB hY h0;refine callsIn_of_wp Tryz.func197 rfl trivial ?_ rfl;simp only[Tryz.ntmps197,List.size_toArray,List.length_cons,List.length_nil,Nat.reduceAdd,Nat.reduceSub,Array.replicate_succ,Array.replicate_zero,List.push_toArray,List.append_toArray,List.nil_append,List.cons_append];refine wpIn_wide.2 ?_;go_wp2_with fail
 go_loopg [3] (ms s0) (fun g pv wr=>∃s,ms s=g/\J s wr)
 case atStart=>exact⟨s0,rfl,bI.o⟩
 case round =>
  clear bI;obtain⟨s,hg,hI⟩:=hrel;have HI:=hid hI;clear hI;have a0:=hid (Nat.le_refl wr.heap.size);have hK:=(show(fun W:World=>W.cell? C=some (f.C:Y)/\W.cell? f.C=some (f.S:Y)/\W.cell? ⟨f.C,7,none⟩=some ((st s).mss:Y)/\W.cell? ⟨f.C,2,none⟩=some (f.G:Y)) wr from⟨(HJ.o _ _ HI.o).2.2,(HJ.o _ _ HI.o).1.cell 0 _ rfl,(HJ.o _ _ HI.o).1.cell 7 _ rfl,(HJ.o _ _ HI.o).1.cell 2 _ rfl⟩);go_wp2_with fail;refine bC (fun W:World=>W.cell? C=some (f.C:Y)/\W.cell? f.C=some (f.S:Y)/\W.cell? ⟨f.C,7,none⟩=some ((st s).mss:Y)/\W.cell? ⟨f.C,2,none⟩=some (f.G:Y)) (hK) fun hZ=>?_;clear hK;have hb:=(Below.refl wr.heap.size wr).drew;replace HI:=hid (aF.o _ _ _ HI.o hb);replace a0:=hid (Nat.le_trans a0.o hb.size);clear hb;obtain⟨y0,hy0⟩:∃y0,y0=wr.drew:=⟨_,rfl⟩;rw[<-hy0]at HI a0 hZ|-;clear hy0;refine aB 0 5 11 1 ?_;refine aB 6 12 2 7 ?_;refine aB 13 3 8 14 ?_;refine aK 4 9 ?_;refine aO 15 ?_;refine aX 10 fun Kq hKq=> ?_;go_simp;refine(kK f.S (f.S+1) (st s).sc (st s).mss _ (HJ.o _ _ HI.o).2.1.sc (HJ.o _ _ HI.o).1.sc).mono ?_;rintro e y1⟨rfl,hb⟩;replace HI:=hid (aF.o _ _ _ HI.o hb);replace a0:=hid (Nat.le_trans a0.o hb.size);clear hb;go_simp;refine hKq.out _ _ (⟨(HJ.o _ _ HI.o).2.2,(HJ.o _ _ HI.o).1.cell 0 _ rfl,(HJ.o _ _ HI.o).1.cell 7 _ rfl,(HJ.o _ _ HI.o).1.cell 2 _ rfl⟩) ?_;clear hKq Kq hZ;refine fun hZ=>aT ?_;refine aX 16 fun Kq hKq=> ?_;go_simp;refine(iD f.G (st s).cg _ (HJ.o _ _ HI.o).1.cg).mono ?_;rintro e y2⟨rfl,rfl⟩;go_simp;refine hKq.out _ _ (⟨(HJ.o _ _ HI.o).2.2,(HJ.o _ _ HI.o).1.cell 0 _ rfl,(HJ.o _ _ HI.o).1.cell 7 _ rfl,(HJ.o _ _ HI.o).1.cell 2 _ rfl⟩) ?_;clear hKq Kq hZ;refine fun hZ=>aT ?_;refine aO 17 ?_;refine az ?_ _;clear hZ;by_cases hp:(st s).sc.pipe (st s).mss<(st s).cg.win
  ·have HP:=hid hp;have hK:=(show(fun W:World=>W.cell? C=some (f.C:Y)/\W.cell? f.C=some (f.S:Y)/\W.cell? ⟨f.C,7,none⟩=some ((st s).mss:Y)) y1 from⟨(HJ.o _ _ HI.o).2.2,(HJ.o _ _ HI.o).1.cell 0 _ rfl,(HJ.o _ _ HI.o).1.cell 7 _ rfl⟩);go_wp2_with fail;refine bC (fun W:World=>W.cell? C=some (f.C:Y)/\W.cell? f.C=some (f.S:Y)/\W.cell? ⟨f.C,7,none⟩=some ((st s).mss:Y)) (hK) fun hZ=>?_;clear hK;have hb:=(Below.refl y1.heap.size y1).drew;replace HI:=hid (aF.o _ _ _ HI.o hb);replace a0:=hid (Nat.le_trans a0.o hb.size);clear hb;obtain⟨y2,hy2⟩:∃y2,y2=y1.drew:=⟨_,rfl⟩;rw[<-hy2]at HI a0 hZ|-;clear hy2;refine aB 0 5 1 6 ?_;refine aB 2 7 3 8 ?_;refine aK 4 9 ?_;refine aX 10 fun Kq hKq=> ?_;go_simp;refine(iH f.S (f.S+1) (st s).sc (st s).mss _ (HJ.o _ _ HI.o).2.1.sc (HJ.o _ _ HI.o).1.sc).mono ?_;rintro e y3⟨v,rfl,hO,hb⟩;have a9:=tZ (HJ.o _ _ HI.o).2.1.sc (m:=(st s).mss) (by have:=(HJ.o _ _ HI.o).2.1.mss;omega);obtain⟨la,lc,rfl,hsp,-,hap⟩:=hO.at a9;replace HI:=hid (aF.o _ _ _ HI.o hb);replace a0:=hid (Nat.le_trans a0.o hb.size);clear hb;have aa:=hid hsp;clear hsp hap hO;go_simp;refine hKq.out _ _ (⟨(HJ.o _ _ HI.o).2.2,(HJ.o _ _ HI.o).1.cell 0 _ rfl,(HJ.o _ _ HI.o).1.cell 7 _ rfl⟩) ?_;clear hKq Kq hZ;refine fun hZ=>aT ?_;refine aO 11 ?_;refine az ?_ _;clear hZ;have b2:=hid (HJ.o _ _ HI.o).2.1;have hm:=b2.mss;obtain⟨b9,hm2⟩:=hm;have ab:=hid (fun x (hx:x∈(st s).sc.lost (st s).mss)=>(eA b2.sc (m:=(st s).mss) (by omega) hx))
   cases hl:(st s).sc.lost (st s).mss with
   | nil =>
    rw[hl]at aa;have HL:=hid hl;clear hl a9;go_wp2_with fail;refine bodyPost_ret (results_none rfl _ _ _) rfl ?_;exact⟨⟨_,rfl⟩,.inl ⟨s,HI.o,fun h=>h.2 HL.o⟩⟩
   | cons x t =>
    rw[hl]at aa ab;have HL:=hid hl;have b4:((x::t:List Sp).length:Int)=(t.length:Int)+1:=by simp
    clear hl a9;obtain⟨b,off,rfl,hbl,hcs⟩:=aa.cells (by simp);obtain⟨d0,d1⟩:=hcs 0 (by simp);clear hcs;have ac:=(ab.o x (by simp)).1;have b5:=(ab.o x (by simp)).2;simp only[List.getElem_cons_zero,Nat.zero_mul,Nat.add_zero]at d0 d1;obtain⟨x1,x2⟩:=x;dsimp only at d0 d1 ac b5;unfold gb at ac;dsimp only at ac;have c7:=(HJ.o _ _ HI.o).1.cell 7 (st s).mss rfl;have cC:=(HJ.o _ _ HI.o).2.2;have hlc:f.C<y3.heap.size:=(HJ.o _ _ HI.o).1.lt;have hlb:C<y3.heap.size:=block_lt_of_cell cC;have hnb:C≠y3.heap.size:=by omega
    have hnc:f.C≠y3.heap.size:=by omega
    go_wp2_with fail
    go_region
    have b3:=((Below.refl y3.heap.size y3).alloc (Nat.le_refl _) (.cells #[x1,(min x2 (x1+(st s).mss):Int)] 92)).drew;have a7:=aF.o s _ _ HI.o b3;have hy0:=HY.o s (x1,x2) t _ a7 HP.o HL.o;unfold aS at hy0;dsimp only at hy0;have e0:=(show At y3.heap.size 0 x1 ((y3.alloc (.cells #[x1,(min x2 (x1+(st s).mss):Int)] 92)).drew)from(At.new _ rfl rfl:At y3.heap.size 0 x1 (y3.alloc (.cells #[x1,(min x2 (x1+(st s).mss):Int)] 92)))).1;have e1:=(show At y3.heap.size 1 (min x2 (x1+(st s).mss):Int) ((y3.alloc (.cells #[x1,(min x2 (x1+(st s).mss):Int)] 92)).drew)from(At.new _ rfl rfl:At y3.heap.size 1 (min x2 (x1+(st s).mss):Int) (y3.alloc (.cells #[x1,(min x2 (x1+(st s).mss):Int)] 92)))).1
    go_upto_region 5 with fail
    generalize (y3.alloc (.cells #[x1,(min x2 (x1+(st s).mss):Int)] 92)).drew=w5 at hy0 a7 e0 e1|-;obtain⟨fn,tmps,assign,body,hy,hR⟩:=hy0;clear b3 d0 d1 c7 cC hnb hnc;refine(wpIn_wide (n:=n)).1 ?_
    gi_wp2
    refine hR.mono ?_;rintro e w6 (⟨rfl,s',hlt,hJ6⟩ | ⟨rfl,hJx⟩)
    ·clear hy hR e0 e1 a7
     gi_wp2
     go_wp2_with fail
     go_roundg (ms s')
     case measure=>omega
     case rel=>exact⟨s',rfl,hJ6⟩
    clear hy hR e0 e1 a7
    gi_wp2
    go_wp2_with fail;refine bodyPost_ret (results_none rfl _ _ _) rfl ?_;exact⟨⟨_,rfl⟩,.inr hJx⟩
  have HP:=hid hp;go_wp2_with fail
  go_end0
  exact⟨⟨_,rfl⟩,.inl ⟨s,HI.o,fun h=>absurd h.1 (by have:=HP.o;omega)⟩⟩
end
section
open Go.RowKit Go.Shelf
def t8 {σ:Type}(B:Nat)(I:σ->World->Prop)(Ix:Code->World->Prop)(R:σ->σ->Prop)(s:σ)(W:World):Exit->Act->World->Prop
 | .normal,_,W'=>KeepsFrom B W W'/\∃s',R s' s/\I s' W'
 | .exit i,_,W'=>KeepsFrom B W W'/\Ix (.exit i) W'
 | _,_,_=>False
theorem vJ {σ:Type}{g:Operand}{ps:Array Tmp}{assign body:Code}{Q:Exit->Act->World->Prop}{a:Act}{w:World}{n C:Nat}{f:Fp}(hn:2<=n)(st:σ->Cn)(ms:σ->Nat)
  (hg:a.eval g= .func (.func 197) #[] #[C]){p:Tmp}(hps:ps= #[p])
  (I:σ->World->Prop)(Ix:Code->World->Prop)(hI:OwnFrom w.heap.size I)(hIx:OwnFrom w.heap.size Ix)
  (hIJ:∀s W,I s W->CnAt f (st s) W/\(st s).Ok/\W.cell? C=some (f.C:Y))(hIB:∀s W W',I s W->Below W.heap.size W W'->I s W')
  (s0:σ)(h0:I s0 w)
  (hround:∀l s (x:Sp) (t:List Sp) W,w.heap.size<=l->w.heap.size+2<=W.heap.size->I s W->(st s).sc.pipe (st s).mss<(st s).cg.win->(st s).sc.lost (st s).mss=x::t ->
   assign.wpIn (Fence.wide.inRound l) (n-1-1) Tryz.prog (Exit.then (fun a' W'=>KeepsFrom w.heap.size W W'/\∃Ax:Unit->World->Prop,OwnFrom w.heap.size Ax/\Ax () W'/\∀W2,Ax () W2->body.wpIn (Fence.wide.inRound l) (n-1-1) Tryz.prog (t8 w.heap.size I Ix (fun s' s=>ms s'<ms s) s W2) a' W2) (fun _ _ _=>False))
    { tmps:=a.tmps.setIfInBounds p (.agg #[x.1,(aS (st s).mss x).2]),defers:=[] } W)
  (hdone:∀(D:Nat) (W:World) (s:σ),w.heap.size<=D->I s W->t7 (st s)->W.heap[D]? =some (.deferred (some []))->Q .normal { a with defers:={ target:=.collected D,args:= #[] }::a.defers } W)
  (hstop:∀(D:Nat) (c:Code) (W:World),w.heap.size<=D->Ix c W->W.heap[D]? =some (.deferred (some []))->c.wpIn Fence.wide n Tryz.prog Q { a with defers:={ target:=.collected D,args:= #[] }::a.defers } W) :
  (Code.rangeFunc g ps assign body).wpIn Fence.wide n Tryz.prog Q a w:=by
 subst hps;refine wpIn_rangeFunc (fun fn hfn=> ?_);obtain⟨rec,hrec⟩:∃rec:LoopState->Option Code->Loop,rec=fun st pe=>{ state:=st,pending:=pe,fn:=fn,tmps:=a.tmps,params:= #[p],assign:=assign,body:=body,defers:=w.heap.size }:=⟨_,rfl⟩;obtain⟨W1,hW1⟩:∃W1,W1=(w.alloc (.deferred (some []))).alloc (.loop (rec .ready none)):=⟨_,rfl⟩;have hz:W1.heap.size=w.heap.size+2:=by rw[hW1];simp
 have ad:W1.heap[w.heap.size+1]? =some (.loop (rec .ready none)):=by
  have:=World.alloc_heap_new (w.alloc (.deferred (some []))) (.loop (rec .ready none));rw[World.size_alloc]at this;rw[hW1];exact this
 have hd1:W1.heap[w.heap.size]? =some (.deferred (some [])):=by
  rw[hW1];exact(Below.heap_alloc _ _ _ (by simp)).trans (World.alloc_heap_new w _)
 have ag:I s0 W1:=by rw[hW1];exact hI.alloc _ (hI.alloc _ h0)
 refine⟨w.heap.size+1,[{ target:=.collected w.heap.size,args:= #[] }],W1,{ target:=.fn (.func 197) #[C],args:= #[.func (.yield (w.heap.size+1)) #[] #[]] },W1,197,#[.func (.yield (w.heap.size+1)) #[] #[],C],W1,?_,?_,fun _ _=>trivial,?_,fun _=>by omega,?_⟩
 ·rw[hW1,hrec];exact run_enterLoop_outer _ _ _ _ _
 ·simp only[resolve,hg]
  simp[go_sem]
 ·simp[invoke,go_sem]
 have key:=rI st ms (n-1) (by omega) (w.heap.size+1) C f
  (fun s W=>I s W/\W.heap[w.heap.size+1]? =some (.loop (rec .ready none))/\W.heap[w.heap.size]? =some (.deferred (some [])))
  (fun W=>∃c,Ix c W/\W.heap[w.heap.size+1]? =some (.loop (rec .done (some c)))/\W.heap[w.heap.size]? =some (.deferred (some [])))
  (fun s W h=>hIJ s W h.1)
  (fun s W W' h hb=>⟨hIB s W W' h.1 hb,(hb.block _ (Array.getElem?_eq_some_iff.1 h.2.1).1).trans h.2.1,(hb.block _ (Array.getElem?_eq_some_iff.1 h.2.2).1).trans h.2.2⟩)
  ?_ W1 s0 ⟨ag,ad,hd1⟩
 ·refine key.mono ?_;rintro e W2⟨⟨v,rfl⟩,(⟨s,⟨hi,hl,hd⟩,hdn⟩ | ⟨c,hi,hl,hd⟩)⟩
  ·have hrun:=run_endLoop (P:=Tryz.prog) hl (by rw[hrec];simp);have a6:(rec .ready none).pending=none:=by rw[hrec]
   rw[a6]at hrun;exact⟨none,_,hrun,hdone w.heap.size _ s (Nat.le_refl _) (hI.putObj _ hi (by omega) hl rfl) hdn ((World.putObj_heap_other (by omega)).trans hd)⟩
  have hrun:=run_endLoop (P:=Tryz.prog) hl (by rw[hrec];simp);have a6:(rec .done (some c)).pending=some c:=by rw[hrec]
  rw[a6]at hrun;exact⟨some c,_,hrun,hstop w.heap.size c _ (Nat.le_refl _) (hIx.putObj _ hi (by omega) hl rfl) ((World.putObj_heap_other (by omega)).trans hd)⟩
 rintro s x t W⟨hi,hl,hd⟩ hc1 hc2;have ak:w.heap.size+2<=W.heap.size:=by have:=(Array.getElem?_eq_some_iff.1 hl).1;omega
 subst hrec;have al:∀x:Value,(#[p].zip #[x]).foldl (fun t (z:Tmp×Value)=>t.setIfInBounds z.1 z.2) a.tmps=a.tmps.setIfInBounds p x:=fun x=>by simp
 refine fO (r:={ state:=.ready,pending:=none,fn:=fn,tmps:=a.tmps,params:= #[p],assign:=assign,body:=body,defers:=w.heap.size }) (B:=w.heap.size) rfl rfl rfl hl (by omega) (wpIn_mono (a:={ tmps:=_,defers:=[] }) (by dsimp only;rw[al];exact hround (w.heap.size+1) s x t W (by omega) ak hi hc1 hc2) ?_);intro e a' W' he
 cases e with
 | normal =>
  obtain⟨hk1,Ax,am,an,av⟩:=he;have hl':=hk1.same _ _ (by omega) hl rfl;have hd':=hk1.same _ _ (Nat.le_refl _) hd rfl;have hlt:=(Array.getElem?_eq_some_iff.1 hl').1;refine⟨hk1,wpIn_mono (av _ (am.putObj (s:=()) _ an (by omega) hl' rfl)) ?_⟩;intro e3 a3 W3 h3;have fin:∀(W3:World),KeepsFrom w.heap.size (W'.putObj (w.heap.size+1) (.loop { state:=.busy,pending:=none,fn:=fn,tmps:=a.tmps,params:= #[p],assign:=assign,body:=body,defers:=w.heap.size })) W3->W3.heap[w.heap.size+1]? =some (.loop { state:=.busy,pending:=none,fn:=fn,tmps:=a.tmps,params:= #[p],assign:=assign,body:=body,defers:=w.heap.size })/\W3.heap[w.heap.size]? =some (.deferred (some [])):=fun W3 hk3=>And.intro (hk3.same _ _ (by omega) (World.putObj_heap_same hlt) rfl) (hk3.same _ _ (Nat.le_refl _) ((World.putObj_heap_other (by omega)).trans hd') rfl)
  cases e3 with
  | normal =>
   obtain⟨hk3,s',a2,ax⟩:=h3;obtain⟨a1,hd3⟩:=fin W3 hk3;exact⟨hk3,.inl ⟨rfl,s',a2,hI.putObj _ ax (by omega) a1 rfl,World.putObj_heap_same (Array.getElem?_eq_some_iff.1 a1).1,(World.putObj_heap_other (by omega)).trans hd3⟩⟩
  | exit i =>
   obtain⟨a1,hd3⟩:=fin W3 h3.1;exact⟨h3.1,.inr ⟨rfl,.exit i,hIx.putObj _ h3.2 (by omega) a1 rfl,World.putObj_heap_same (Array.getElem?_eq_some_iff.1 a1).1,(World.putObj_heap_other (by omega)).trans hd3⟩⟩
  | ret=>exact h3.elim
  | goto t=>exact h3.elim
  | panic c=>exact h3.elim
  | outgrown=>exact h3.elim
 | ret=>exact he.elim
 | exit i=>exact he.elim
 | goto t=>exact he.elim
 | panic c=>exact he.elim
 | outgrown=>exact he.elim
end
section
set_option maxHeartbeats 8000000
set_option maxRecDepth 100000
open Go.RowKit Go.Shelf
attribute [local go_sem] Oper.semAt_some
theorem im {c:Cn}(ok:c.Ok): -1099511627776<=c.base/\c.base<=1099511627776:=by have:=ok.b0;have:=ok.base1;omega
theorem io {c:Cn}(ok:c.Ok):c.held.length<=1099511627776:=by have:=ok.hlen;omega
def xV (c:Cn)(v:Int):Prop:=(0<c.allowed/\v=c.allowed)\/(c.allowed<=0/\(c.shut=true/\c.next=c.last)/\v=0)
def ta (c:Cn)(d:Prop):Prop:=d\/(c.allowed<=0/\¬(c.shut=true/\c.next=c.last))
theorem pB {σ:Type} (st:σ->Cn) (ms:σ->Nat) (dn:σ->Prop) (n:Nat) (hn:1<=n) (l C:Nat) (f:Fp) (J:σ->World->Prop)
  (hJ:∀s W,J s W->CnAt f (st s) W/\(st s).Ok/\W.cell? C=some (f.C:Y))
  (hJB:∀s W W',J s W->Below W.heap.size W W'->J s W')
  (hY:∀s v W,J s W->xV (st s) v->YieldAt Fence.wide (n-1) Tryz.prog l #[.int .i64 v] W fun e W'=>e= .returned true/\∃s',J s' W'/\(0<v->ms s'<ms s)/\(v=0->dn s'))
  (w:World) (s0:σ) (h0:J s0 w) :
  CallsIn Fence.wide n Tryz.prog 202 #[.func (.yield l) #[] #[],C] w fun e W'=>(∃v,e= .returned v)/\∃s,J s W'/\ta (st s) (dn s):=by
 have HJ:=hid hJ;have aF:=hid hJB;have HY:=hid hY;have HI:=hid h0;clear hJ hJB hY h0;refine callsIn_of_wp Tryz.func202 rfl trivial ?_ rfl;simp only[Tryz.ntmps202,List.size_toArray,List.length_cons,List.length_nil,Nat.reduceAdd,Nat.reduceSub,Array.replicate_succ,Array.replicate_zero,List.push_toArray,List.append_toArray,List.nil_append,List.cons_append];refine wpIn_wide.2 ?_;have cC:=(HJ.o _ _ HI.o).2.2;go_wp2_with fail;refine(il f (st s0) _ (HJ.o _ _ HI.o).1 (HJ.o _ _ HI.o).2.1).mono ?_;rintro e w1⟨rfl,hb⟩;replace HI:=hid (aF.o _ _ _ HI.o hb);clear hb;clear cC;go_wp2_with fail
 go_loopg [3] (ms s0) (fun g nv wr=>∃s,ms s=g/\nv=((st s).allowed:Y)/\J s wr)
 case atStart=>exact⟨s0,rfl,rfl,HI.o⟩
 case round =>
  clear HI;obtain⟨s,hg,rfl,hI⟩:=hrel;have HI:=hid hI;clear hI;by_cases hp:0<(st s).allowed
  ·have hy0:=HY.o s _ _ HI.o (.inl ⟨hp,rfl⟩);obtain⟨fn,tmps,assign,body,hy,hR⟩:=hy0;have HP:=hid hp
   go_upto_region 3 with fail
   refine(wpIn_wide (n:=n)).1 ?_
   gi_wp2
   refine hR.mono ?_;rintro e w6⟨rfl,s',hJ6,hlt,-⟩;have hlt:=hlt HP.o;clear hy hR HP hp HI;have HI:=hid hJ6;clear hJ6;have cC:=(HJ.o _ _ HI.o).2.2
   gi_wp2
   go_wp2_with fail;refine(il f (st s') _ (HJ.o _ _ HI.o).1 (HJ.o _ _ HI.o).2.1).mono ?_;rintro e w7⟨rfl,hb⟩;replace HI:=hid (aF.o _ _ _ HI.o hb);clear hb;clear cC;go_wp2_with fail
   go_roundg (ms s')
   case measure=>omega
   case rel=>exact⟨s',rfl,rfl,HI.o⟩
  cases hsh:(st s).shut with
  | true =>
   have a4:=hid hsh;clear hsh;have hK:=(show(fun W:World=>W.cell? C=some (f.C:Y)/\W.cell? ⟨f.C,9,none⟩=some (true:Y)) wr from⟨(HJ.o _ _ HI.o).2.2,(HJ.o _ _ HI.o).1.cell 9 true (congrArg (fun b=>some (Value.bool b)) a4.o)⟩);go_wp2_with fail;refine bC (fun W:World=>W.cell? C=some (f.C:Y)/\W.cell? ⟨f.C,9,none⟩=some (true:Y)) (hK) fun hZ=>?_;clear hK;have hb:=(Below.refl wr.heap.size wr).drew;replace HI:=hid (aF.o _ _ _ HI.o hb);clear hb;generalize wr.drew=y0 at HI hZ|-;refine aB 0 1 2 3 ?_;refine aB 4 5 6 10 ?_;refine aB 7 11 8 12 ?_;refine aX 9 fun Kq hKq=> ?_;go_simp;refine(aU f (st s) _ (HJ.o _ _ HI.o).1).mono ?_;rintro e y1⟨rfl,hb⟩;replace HI:=hid (aF.o _ _ _ HI.o hb);clear hb;go_simp;refine hKq.out _ _ (⟨(HJ.o _ _ HI.o).2.2,(HJ.o _ _ HI.o).1.cell 9 true (congrArg (fun b=>some (Value.bool b)) a4.o)⟩) ?_;clear hKq Kq hZ;refine fun hZ=>aT ?_;refine aX 13 fun Kq hKq=> ?_;go_simp;refine(dv f (st s) _ (HJ.o _ _ HI.o).1 (im (HJ.o _ _ HI.o).2.1) (io (HJ.o _ _ HI.o).2.1)).mono ?_;rintro e y2⟨rfl,rfl⟩;have hb:=(Below.refl y1.heap.size y1).drew;replace HI:=hid (aF.o _ _ _ HI.o hb);clear hb;generalize y1.drew=y2 at HI|-;go_simp;refine hKq.out _ _ (⟨(HJ.o _ _ HI.o).2.2,(HJ.o _ _ HI.o).1.cell 9 true (congrArg (fun b=>some (Value.bool b)) a4.o)⟩) ?_;clear hKq Kq hZ;refine fun hZ=>aT ?_;refine aK 14 15 ?_;refine az ?_ _;clear hZ;by_cases he:(st s).next=(st s).last
   ·have hd:((st s).next==(st s).last)=true:=beq_iff_eq.2 he;have hy0:=HY.o s 0 _ HI.o (.inr ⟨by omega,⟨a4.o,he⟩,rfl⟩);obtain⟨fn,tmps,assign,body,hy,hR⟩:=hy0;clear he
    go_upto_region 5 with fail
    refine(wpIn_wide (n:=n)).1 ?_
    gi_wp2
    refine hR.mono ?_;rintro e w6⟨rfl,s',hJ6,-,hdn⟩;clear hy hR
    gi_wp2
    go_wp2_with fail
    go_end0
    exact⟨⟨_,rfl⟩,s',hJ6,.inl (hdn trivial)⟩
   have hd:((st s).next==(st s).last)=false:=beq_eq_false_iff_ne.2 he;have HE:=hid he;clear he;have HP:=hid (show ¬0<(st s).allowed by omega);go_wp2_with fail
   go_end0
   exact⟨⟨_,rfl⟩,s,HI.o,.inr ⟨by have:=HP.o;omega,fun h=>HE.o h.2⟩⟩
  | false =>
   have a4:=hid hsh;clear hsh;have hK:=(show(fun W:World=>W.cell? C=some (f.C:Y)/\W.cell? ⟨f.C,9,none⟩=some (false:Y)) wr from⟨(HJ.o _ _ HI.o).2.2,(HJ.o _ _ HI.o).1.cell 9 false (congrArg (fun b=>some (Value.bool b)) a4.o)⟩);go_wp2_with fail;refine bC (fun W:World=>W.cell? C=some (f.C:Y)/\W.cell? ⟨f.C,9,none⟩=some (false:Y)) (hK) fun hZ=>?_;clear hK;have hb:=(Below.refl wr.heap.size wr).drew;replace HI:=hid (aF.o _ _ _ HI.o hb);clear hb;generalize wr.drew=y0 at HI hZ|-;refine aB 0 1 2 3 ?_;refine aK 4 5 ?_;refine aV 6 ?_;refine aV 7 ?_;refine aV 8 ?_;refine aV 9 ?_;refine aV 10 ?_;refine aV 11 ?_;refine aV 12 ?_;refine aV 13 ?_;refine aV 14 ?_;refine aO 15 ?_;refine az ?_ _;clear hZ;have HP:=hid (show ¬0<(st s).allowed by omega);go_wp2_with fail
   go_end0
   exact⟨⟨_,rfl⟩,s,HI.o,.inr ⟨by have:=HP.o;omega,fun h=>by have:=h.1;rw[a4.o]at this;cases this⟩⟩
def rJ {σ:Type}(B:Nat)(I:σ->World->Prop)(R:σ->σ->Prop)(s:σ)(W:World):Exit->Act->World->Prop
 | .normal,_,W'=>KeepsFrom B W W'/\∃s',R s' s/\I s' W'
 | _,_,_=>False
theorem tb {σ:Type}{g:Operand}{ps:Array Tmp}{assign body:Code}{Q:Exit->Act->World->Prop}{a:Act}{w:World}{n C:Nat}{f:Fp}(hn:2<=n)(st:σ->Cn)(ms:σ->Nat)(dn:σ->Prop)
  (hg:a.eval g= .func (.func 202) #[] #[C]){p:Tmp}(hps:ps= #[p])
  (I:σ->World->Prop)(hI:OwnFrom w.heap.size I)
  (hIJ:∀s W,I s W->CnAt f (st s) W/\(st s).Ok/\W.cell? C=some (f.C:Y))(hIB:∀s W W',I s W->Below W.heap.size W W'->I s W')
  (s0:σ)(h0:I s0 w)
  (hround:∀l s (v:Int) W,w.heap.size<=l->w.heap.size+2<=W.heap.size->I s W->xV (st s) v ->
   assign.wpIn (Fence.wide.inRound l) (n-1-1) Tryz.prog (Exit.then (fun a' W'=>KeepsFrom w.heap.size W W'/\∃Ax:Unit->World->Prop,OwnFrom w.heap.size Ax/\Ax () W'/\∀W2,Ax () W2->body.wpIn (Fence.wide.inRound l) (n-1-1) Tryz.prog (rJ w.heap.size I (fun s' s=>(0<v->ms s'<ms s)/\(v=0->dn s')) s W2) a' W2) (fun _ _ _=>False))
    { tmps:=a.tmps.setIfInBounds p v,defers:=[] } W)
  (hdone:∀(D:Nat) (W:World) (s:σ),w.heap.size<=D->I s W->ta (st s) (dn s)->W.heap[D]? =some (.deferred (some []))->Q .normal { a with defers:={ target:=.collected D,args:= #[] }::a.defers } W) :
  (Code.rangeFunc g ps assign body).wpIn Fence.wide n Tryz.prog Q a w:=by
 subst hps;refine wpIn_rangeFunc (fun fn hfn=> ?_);obtain⟨rec,hrec⟩:∃rec:LoopState->Option Code->Loop,rec=fun st pe=>{ state:=st,pending:=pe,fn:=fn,tmps:=a.tmps,params:= #[p],assign:=assign,body:=body,defers:=w.heap.size }:=⟨_,rfl⟩;obtain⟨W1,hW1⟩:∃W1,W1=(w.alloc (.deferred (some []))).alloc (.loop (rec .ready none)):=⟨_,rfl⟩;have hz:W1.heap.size=w.heap.size+2:=by rw[hW1];simp
 have ad:W1.heap[w.heap.size+1]? =some (.loop (rec .ready none)):=by
  have:=World.alloc_heap_new (w.alloc (.deferred (some []))) (.loop (rec .ready none));rw[World.size_alloc]at this;rw[hW1];exact this
 have hd1:W1.heap[w.heap.size]? =some (.deferred (some [])):=by
  rw[hW1];exact(Below.heap_alloc _ _ _ (by simp)).trans (World.alloc_heap_new w _)
 have ag:I s0 W1:=by rw[hW1];exact hI.alloc _ (hI.alloc _ h0)
 refine⟨w.heap.size+1,[{ target:=.collected w.heap.size,args:= #[] }],W1,{ target:=.fn (.func 202) #[C],args:= #[.func (.yield (w.heap.size+1)) #[] #[]] },W1,202,#[.func (.yield (w.heap.size+1)) #[] #[],C],W1,?_,?_,fun _ _=>trivial,?_,fun _=>by omega,?_⟩
 ·rw[hW1,hrec];exact run_enterLoop_outer _ _ _ _ _
 ·simp only[resolve,hg]
  simp[go_sem]
 ·simp[invoke,go_sem]
 have key:=pB st ms dn (n-1) (by omega) (w.heap.size+1) C f
  (fun s W=>I s W/\W.heap[w.heap.size+1]? =some (.loop (rec .ready none))/\W.heap[w.heap.size]? =some (.deferred (some [])))
  (fun s W h=>hIJ s W h.1)
  (fun s W W' h hb=>⟨hIB s W W' h.1 hb,(hb.block _ (Array.getElem?_eq_some_iff.1 h.2.1).1).trans h.2.1,(hb.block _ (Array.getElem?_eq_some_iff.1 h.2.2).1).trans h.2.2⟩)
  ?_ W1 s0 ⟨ag,ad,hd1⟩
 ·refine key.mono ?_;rintro e W2⟨⟨v,rfl⟩,s,⟨hi,hl,hd⟩,hdn⟩;have hrun:=run_endLoop (P:=Tryz.prog) hl (by rw[hrec];simp);have a6:(rec .ready none).pending=none:=by rw[hrec]
  rw[a6]at hrun;exact⟨none,_,hrun,hdone w.heap.size _ s (Nat.le_refl _) (hI.putObj _ hi (by omega) hl rfl) hdn ((World.putObj_heap_other (by omega)).trans hd)⟩
 rintro s v W⟨hi,hl,hd⟩ hc1;have ak:w.heap.size+2<=W.heap.size:=by have:=(Array.getElem?_eq_some_iff.1 hl).1;omega
 subst hrec;have al:∀x:Value,(#[p].zip #[x]).foldl (fun t (z:Tmp×Value)=>t.setIfInBounds z.1 z.2) a.tmps=a.tmps.setIfInBounds p x:=fun x=>by simp
 refine fO (r:={ state:=.ready,pending:=none,fn:=fn,tmps:=a.tmps,params:= #[p],assign:=assign,body:=body,defers:=w.heap.size }) (B:=w.heap.size) rfl rfl rfl hl (by omega) (wpIn_mono (a:={ tmps:=_,defers:=[] }) (by dsimp only;rw[al];exact hround (w.heap.size+1) s v W (by omega) ak hi hc1) ?_);intro e a' W' he
 cases e with
 | normal =>
  obtain⟨hk1,Ax,am,an,av⟩:=he;have hl':=hk1.same _ _ (by omega) hl rfl;have hd':=hk1.same _ _ (Nat.le_refl _) hd rfl;have hlt:=(Array.getElem?_eq_some_iff.1 hl').1;refine⟨hk1,wpIn_mono (av _ (am.putObj (s:=()) _ an (by omega) hl' rfl)) ?_⟩;intro e3 a3 W3 h3;have fin:∀(W3:World),KeepsFrom w.heap.size (W'.putObj (w.heap.size+1) (.loop { state:=.busy,pending:=none,fn:=fn,tmps:=a.tmps,params:= #[p],assign:=assign,body:=body,defers:=w.heap.size })) W3->W3.heap[w.heap.size+1]? =some (.loop { state:=.busy,pending:=none,fn:=fn,tmps:=a.tmps,params:= #[p],assign:=assign,body:=body,defers:=w.heap.size })/\W3.heap[w.heap.size]? =some (.deferred (some [])):=fun W3 hk3=>And.intro (hk3.same _ _ (by omega) (World.putObj_heap_same hlt) rfl) (hk3.same _ _ (Nat.le_refl _) ((World.putObj_heap_other (by omega)).trans hd') rfl)
  cases e3 with
  | normal =>
   obtain⟨hk3,s',a2,ax⟩:=h3;obtain⟨a1,hd3⟩:=fin W3 hk3;exact⟨hk3,rfl,s',⟨hI.putObj _ ax (by omega) a1 rfl,World.putObj_heap_same (Array.getElem?_eq_some_iff.1 a1).1,(World.putObj_heap_other (by omega)).trans hd3⟩,a2⟩
  | exit i=>exact h3.elim
  | ret=>exact h3.elim
  | goto t=>exact h3.elim
  | panic c=>exact h3.elim
  | outgrown=>exact h3.elim
 | ret=>exact he.elim
 | exit i=>exact he.elim
 | goto t=>exact he.elim
 | panic c=>exact he.elim
 | outgrown=>exact he.elim
end
section
open Go.RowKit Go.Shelf
theorem nj {n:Nat}{P:Program}{row:String}{args:Array Value}{w:World}{R:Value->World->Prop}(h:Rows P row args w R):RowsIn Fence.wide n P row args w R :=
 fun c cs _=>let ⟨v,w',r,s⟩:=h c cs;⟨v,w',r,stepsIn_wide.2 s⟩
theorem kP {l n:Nat}(hn:1<=n){P:Program}{o:Oper}{a:Act}{K:Act->World->Prop}{Q:Exit->Act->World->Prop}{r:Result Next}(h:o.upon P a K Q r):o.uponIn (Fence.wide.inRound l) n P a K Q r:=by
 cases r with
 | ok x w' =>
  cases x with
  | value v=>exact h
  | skip=>exact h
  | defer d=>exact h
  | enter f args=>exact⟨fun _=>hn,CallsIn.inRound l (callsIn_wide.2 h)⟩
  | row row args=>exact⟨fun _=>hn,nj h⟩
  | _=>exact h.elim
 | halt x w' =>
  cases x with
  | panic v=>exact h
  | _=>exact h.elim
theorem kQ {l n:Nat}(hn:1<=n){P:Program}{ops:Array Oper}{Q:Exit->Act->World->Prop}{i:Nat}{K K':Act->World->Prop}{a:Act}{w:World}(hd:∀o∈ops,∀c,o.op≠ .defer c)(hlo:¬LetsOut Q)
  (hk:∀a w,K a w->K' a w)(h:wpOp P ops Q i K a w):wpOpIn (Fence.wide.inRound l) n P ops Q i K' a w:=by
 unfold wpOp at h;unfold wpOpIn
 cases ho:ops[i]? with
 | none=>rw[ho]at h;exact hk _ _ h
 | some o =>
  rw[ho]at h;dsimp only at h|-;by_cases hw:Region.wanted o (yielded ops a.tmps)=true
  ·rw[if_pos hw]at h|-
   rcases h with h | ⟨-,h⟩
   ·refine Oper.wpIn_mono hk ⟨fun _ _=>trivial,?_⟩;rw[Oper.semAt_eq _ _ _ (hd o (Array.mem_of_getElem? ho))];exact kP hn h
   exact absurd h hlo
  rw[if_neg hw]at h|-;exact⟨fun _ _=>trivial,hk _ _ h⟩
theorem fE {l n:Nat}(hn:1<=n){P:Program}{md:Region.Mode}{ops:Array Oper}{Q:Exit->Act->World->Prop}(hd:∀o∈ops,∀c,o.op≠ .defer c)(hlo:¬LetsOut Q) :
  ∀(fuel:Nat) (listed:Array Bool) (a:Act) (w:World),wpAny P md ops Q fuel listed a w->wpAnyIn (Fence.wide.inRound l) n P md ops Q fuel listed a w
 | 0,_,_,_,h=>h
 | fuel+1,_,_,_,h=>⟨h.1,fun i hi=>kQ hn hd hlo (fun a' w' h'=>fE hn hd hlo fuel _ a' w' h') (h.2 i hi)⟩
def wY (Q:Exit->Act->World->Prop):Exit->Act->World->Prop
 | .normal,a,w=>Q .normal a w
 | _,_,_=>False
def pr (ops:Array Oper):Bool:=ops.toList.all fun o=>match o.op with | .defer _=>false | _=>true
theorem mU {ops:Array Oper}(h:pr ops=true):∀o∈ops,∀c,o.op≠ .defer c:=by
 intro o ho c e;have:=List.all_eq_true.1 h o (by simpa using ho);rw[e]at this
 cases this
theorem cD {l n id:Nat}(hn:1<=n){P:Program}{ops:Array Oper}{Q:Exit->Act->World->Prop}{S:World->Prop}{a:Act}{w:World}(hm:P.follows .mixedOrders=true)(hd:pr ops=true)(hS:S w.drew)
  (h:S w.drew->wpAnyH P .any ops (wY Q) S ops.size (Array.replicate ops.size false) a w.drew):(Code.region id ops true).wpIn (Fence.wide.inRound l) n P Q a w :=
 wpIn_mono (Q:=wY Q) (wpIn_region_any hm (fE hn (mU hd) (fun⟨_,_,h⟩=>h) _ _ _ _ (wpAny_of_held _ _ _ _ (h hS)))) (fun e a w h=>by cases e <;> first | exact h | exact h.elim)
theorem b7 {f:Fp}{c:Cn}{W W':World}(h:CnAt f c W)(hc:ChgF f W W')(B:Nat):KeepsFrom B W W':=by
 refine⟨hc.size,fun k o _ hk ho=> ?_⟩
 have key:∀b t,cu W b t->k≠b:=by
  rintro b t⟨vs,fr,e⟩ rfl;rw[hk]at e
  cases e
  cases ho
 rw[hc.block k (Array.getElem?_eq_some_iff.1 hk).1 (key _ _ h.tyC) (key _ _ h.tyS) (key _ _ h.tyT) (key _ _ h.tyG) (key _ _ h.tyX) (key _ _ h.tyR)];exact hk
theorem CnAt.marks {f:Fp}{c:Cn}{W W':World}{row:Option Nat}(h:CnAt f c W)(hg:W.grownBy W' row)(hr:∀r,row=some r->dZ<=r/\∃o:Obj,W.heap[r]? =some o/\o.isCells=false):CnAt f c W':=by
 have key:∀b t,cu W b t->W'.heap[b]? =W.heap[b]? :=by
  rintro b t⟨vs,fr,e⟩;refine hg.block b (Array.getElem?_eq_some_iff.1 e).1 (fun he=> ?_);obtain⟨-,o,ho,hc⟩:=hr b he.symm;rw[e]at ho
  cases ho
  cases hc
 exact h.keep ⟨hg.os,hg.tape,hg.output,hg.size,fun k hk=>hg.block k (Nat.lt_of_lt_of_le hk h.gl.top) (fun e=>by have:=(hr k e.symm).1;omega)⟩ hg.size (fun b hb=>key b _ hb) (key _ _ h.tyC) (key _ _ h.tyS) (key _ _ h.tyT) (key _ _ h.tyG) (key _ _ h.tyX) (key _ _ h.tyR)
theorem aJ.marks {W W':World}{base:Nat}{v:Value}{L:List Sg}{row:Option Nat}(h:aJ W base v L)(hg:W.grownBy W' row)(hr:∀r,row=some r->∃o:Obj,W.heap[r]? =some o/\o.isCells=false):aJ W' base v L:=by
 obtain⟨M,e,h⟩:=h
 have key:∀b t,cu W b t->W'.heap[b]? =W.heap[b]? :=by
  rintro b t⟨vs,fr,e⟩;refine hg.block b (Array.getElem?_eq_some_iff.1 e).1 (fun he=> ?_);obtain⟨o,ho,hc⟩:=hr b he.symm;rw[e]at ho
  cases ho
  cases hc
 exact⟨M,e,h.keep hg.size (fun b hb=>key b _ hb) (fun k e=>key k _ (h.ty k e))⟩
theorem ChgF.marks {f:Fp}{w W W':World}{row:Option Nat}(h:ChgF f w W)(hg:W.grownBy W' row)(hr:∀r,row=some r->w.heap.size<=r):ChgF f w W':=h.grown hg hr
theorem aJ.chgF {f:Fp}{c:Cn}{w w':World}{base:Nat}{v:Value}{L:List Sg}(h:aJ w base v L)(hc:CnAt f c w)(hch:ChgF f w w'):aJ w' base v L:=by
 obtain⟨M,e,h⟩:=h;exact⟨M,e,h.chgF hc hch⟩
end
section
open Go.RowKit Go.Shelf
def Box1 (B:Nat)(v:Value)(t:TypeId)(W:World):Prop:=W.heap[B]? =some (.cells #[v] t (0,0))
namespace Box1
variable {B : Nat} {v : Value} {t : TypeId} {W W' : World}
theorem new (w:World)(v:Value)(t:TypeId):Box1 w.heap.size v t (w.alloc (.cells #[v] t)):=heap_alloc_new _ _
theorem ty (h:Box1 B v t W):cu W B t:=⟨_,_,h⟩
theorem lt (h:Box1 B v t W):B<W.heap.size:=h.ty.lt
theorem cell (h:Box1 B v t W):W.cell? B=some v:=by rw[cell_of_row _ _ _ _ _ _ h];rfl
theorem free (h:Box1 B v t W):W.frozen? B=false:=frozen_of_row _ _ _ _ _ h
theorem below (h:Box1 B v t W)(hb:Below W.heap.size W W'):Box1 B v t W':=(hb.block B h.lt).trans h
theorem set (h:Box1 B v t W)(u:Value):Box1 B u t (W.setCell B u):=by
 unfold Box1;rw[heap_setCell_same _ _ _ _ _ _ h];rfl
theorem other (h:Box1 B v t W){C:Nat}(hne:B≠C)(i:Nat)(u:Value):Box1 B v t (W.setCell ⟨C,i,none⟩ u):=(((Chg.refl C W).setCell i u).block B h.lt hne).trans h
theorem chgF {f:Fp}{c:Cn}(h:Box1 B v t W)(hc:CnAt f c W)(hch:ChgF f W W')(h1:t≠104)(h2:t≠171)(h3:t≠147)(h4:t≠168)(h5:t≠156)(h6:t≠5):Box1 B v t W' :=
 (hch.block B h.lt (h.ty.ne hc.tyC h1) (h.ty.ne hc.tyS h2) (h.ty.ne hc.tyT h3) (h.ty.ne hc.tyG h4) (h.ty.ne hc.tyX h5) (h.ty.ne hc.tyR h6)).trans h
theorem grown (h:Box1 B v t W){r:Option Nat}(hg:W.grownBy W' r)(hr:∀k,r=some k->cu W k 43)(ht:t≠43):Box1 B v t W' :=
 (hg.block B h.lt (fun e=>h.ty.ne (hr B e.symm) ht rfl)).trans h
theorem marks (h:Box1 B v t W){row:Option Nat}(hg:W.grownBy W' row)(hr:∀r,row=some r->∃o:Obj,W.heap[r]? =some o/\o.isCells=false):Box1 B v t W':=by
 refine(hg.block B h.lt (fun e=> ?_)).trans h;obtain⟨o,ho,hc⟩:=hr B e.symm;rw[h]at ho
 cases ho
 cases hc
end Box1
structure Pd (f:Fp)(now:Int)(w:World)(c:Cn)(L:List Sg)(W:World):Prop where
 cn:CnAt f c W
 ok:c.Ok
 bc:Box1 w.heap.size f.C 34 W
 bn:Box1 (w.heap.size+1) now 3 W
 bl:∃v,Box1 (w.heap.size+2) v 60 W/\aJ W (w.heap.size+3) v L
 ch:ChgF f w W
 top:dZ<=w.heap.size
namespace Pd
variable {f : Fp} {now : Int} {w : World} {c d : Cn} {L : List Sg} {W W' : World}
theorem below (h:Pd f now w c L W)(hb:Below W.heap.size W W'):Pd f now w c L W':=by
 obtain⟨v,h1,h2⟩:=h.bl;exact⟨h.cn.below hb,h.ok,h.bc.below hb,h.bn.below hb,⟨v,h1.below hb,h2.below hb⟩,h.ch.trans (.ofB hb),h.top⟩
theorem step (h:Pd f now w c L W)(hd:CnAt f d W')(ok:d.Ok)(hch:ChgF f W W'):Pd f now w d L W':=by
 obtain⟨v,h1,h2⟩:=h.bl;exact⟨hd,ok,h.bc.chgF h.cn hch (by decide) (by decide) (by decide) (by decide) (by decide) (by decide),h.bn.chgF h.cn hch (by decide) (by decide) (by decide) (by decide) (by decide) (by decide),⟨v,h1.chgF h.cn hch (by decide) (by decide) (by decide) (by decide) (by decide) (by decide),h2.chgF h.cn hch⟩,h.ch.trans hch,h.top⟩
theorem marks (h:Pd f now w c L W){row:Option Nat}(hg:W.grownBy W' row)(hr:∀r,row=some r->w.heap.size<=r/\∃o:Obj,W.heap[r]? =some o/\o.isCells=false):Pd f now w c L W':=by
 obtain⟨v,h1,h2⟩:=h.bl;have hr2:=fun r e=>(hr r e).2;exact⟨h.cn.marks hg (fun r e=>⟨Nat.le_trans h.top (hr r e).1,(hr r e).2⟩),h.ok,h.bc.marks hg hr2,h.bn.marks hg hr2,⟨v,h1.marks hg hr2,h2.marks hg hr2⟩,h.ch.marks hg (fun r e=>(hr r e).1),h.top⟩
theorem size (h:Pd f now w c L W):w.heap.size+2<W.heap.size:=by
 obtain⟨v,h1,-⟩:=h.bl;exact h1.lt
theorem emit (h:Pd f now w c L W){M:List bp}{v v':Value}{x:bp}(hL:M.map (·.1)=L)(ho:bm W (w.heap.size+3) v M)(h':bm W' (w.heap.size+3) v' (M++[x]))(hg:W.grownBy W' v.ownBlock) :
  Pd f now w c (L++[x.1]) (W'.setCell ⟨w.heap.size+2,0,none⟩ v')/\KeepsFrom (w.heap.size+3) W (W'.setCell ⟨w.heap.size+2,0,none⟩ v'):=by
 obtain⟨u,h1,h2⟩:=h.bl;have hty:∀k,v.ownBlock=some k->cu W k 43:=ho.ty;have hr:∀k,v.ownBlock=some k->cu W k 43/\dZ<=k:=fun k e=>⟨ho.ty k e,by have:=(ho.lt k e).1;have:=h.top;omega⟩;have hb:=h1.grown hg hty (by decide);have hcn:=h.cn.grown hg hr;have hc:Chg (w.heap.size+2) W' (W'.setCell ⟨w.heap.size+2,0,none⟩ v'):=(Chg.refl _ _).setCell 0 v';have hsz:=h.size
 have b6:KeepsFrom (w.heap.size+3) W (W'.setCell ⟨w.heap.size+2,0,none⟩ v'):=by
  refine⟨Nat.le_trans hg.size hc.size,fun k o hB hk hoc=> ?_⟩;have hkl:=(Array.getElem?_eq_some_iff.1 hk).1;rw[hc.block k (Nat.lt_of_lt_of_le hkl hg.size) (by omega),hg.block k hkl (fun e=> ?_)]
  ·exact hk
  obtain⟨vs,fr,e2⟩:=hty k e.symm;rw[hk]at e2
  cases e2
  cases hoc
 refine⟨⟨hcn.beside hb.ty hc (by have:=h.top;omega) (by decide) (by decide) (by decide) (by decide) (by decide) (by decide) (by decide),h.ok,(h.bc.grown hg hty (by decide)).other (by omega) _ _,(h.bn.grown hg hty (by decide)).other (by omega) _ _,⟨v',hb.set v',?_⟩,(h.ch.grown hg (fun k e=>by have:=(ho.lt k e).1;omega)).newset (by omega) _ _,h.top⟩,b6⟩;refine⟨M++[x],by rw[List.map_append,hL];rfl,h'.keep hc.size (aE.chg hc hb.ty (by decide)) (fun k e=>hc.block k (h'.lt k e).2 (by have:=(h'.lt k e).1;omega))⟩
end Pd
end
section
open Go.RowKit Go.Shelf
def gM (c:Cn):Nat:=(aC (c.sc.lost c.mss)).toNat
def ua (c:Cn)(x:Sp):Cn:={ c.pieceC with sc:=c.sc.ret (aS c.mss x),tm:=c.tm.retr }
theorem mV {c:Cn}(ok:c.Ok):0<=aC (c.sc.lost c.mss)/\aC (c.sc.lost c.mss)<=c.flight/\aC (c.sc.lost c.mss)<=1099511627776:=by
 have hm:=ok.mss;obtain⟨p1,-,-⟩:=lH ok.sc (m:=c.mss) (by omega);have h3:=aL ok.sc.csk;have h4:=aL (bq ok.sc (m:=c.mss) (by omega)).1;unfold Cn.flight;omega
theorem mW {c:Cn}(ok:c.Ok):gM c<c.flight.toNat+1:=by
 have:=mV ok;unfold gM;omega
theorem pu {c:Cn}(ok:c.Ok){x:Sp}{t:List Sp}(hl:c.sc.lost c.mss=x::t) :
  c.sc.retE (aS c.mss x)=0/\gM (ua c x)<gM c/\(ua c x).Ok/\0<=x.1/\x.1<=(aS c.mss x).2/\(aS c.mss x).2<=1099511627776:=by
 have hm:=ok.mss;have hx:x∈c.sc.lost c.mss:=by rw[hl];simp
 obtain⟨ha,hu,hn,-⟩:=eA ok.sc (m:=c.mss) (by omega) hx;unfold gb at ha;have h0:=ok.sc.u0;have b8:=ok.sc.n40;have hc2:(aS c.mss x).2=min x.2 (x.1+c.mss):=rfl;obtain⟨r1,r2,-⟩:=mx ok.sc (m:=c.mss) (by omega) hx (x:=aS c.mss x) rfl (by rw[hc2];show x.1<_;omega) (by rw[hc2];omega);have hb:=mV ok;refine⟨by unfold Sc.retE;rw[if_pos r1],?_,(ok.pieceC.onSc (ok.sc.ret _)).onTm (Tm.retr_fit ok.tm),by omega,by rw[hc2];omega,by rw[hc2];omega⟩;unfold gM
 have e:(ua c x).sc.lost (ua c x).mss=(c.sc.retS (aS c.mss x)).lost c.mss:=by
  show(c.sc.ret (aS c.mss x)).lost c.mss=_;unfold Sc.ret;rw[if_pos r1]
 rw[e,r2];have h1:(aS c.mss x).1=x.1:=rfl;have h2:=aL (bq (ok.sc.retS r1) (m:=c.mss) (by omega)).1;omega
theorem pC {c:Cn}(ok:c.Ok){x:Sp}{t:List Sp}(hp:c.sc.pipe c.mss<c.cg.win)(hl:c.sc.lost c.mss=x::t)(k:Nat)(l:List Sg):lostL (k+1) c l=lostL k (ua c x) (l++[c.pieceS x.1 (aS c.mss x).2]):=by
 rw[lostL,if_pos hp,hl];dsimp only;rw[if_pos (pu ok hl).1];rfl
theorem pD {c:Cn}(h:t7 c)(k:Nat)(l:List Sg):lostL k c l=(c,l):=by
 cases k with
 | zero=>rfl
 | succ k =>
  rw[lostL];split
  ·rename_i hp
   cases hl:c.sc.lost c.mss with
   | nil=>rfl
   | cons x t=>exact absurd ⟨hp,by rw[hl];simp⟩ h
  rfl
def I1 (f:Fp)(now:Int)(w:World)(C:Nat)(R:Cn×List Sg)(s:Cn×List Sg)(W:World):Prop :=
 Pd f now w s.1 s.2 W/\Box1 C f.C 34 W/\s.2.length+gM s.1<=1099511627776/\∃k,gM s.1<k/\lostL k s.1 s.2=R
theorem wZ {f:Fp}{now:Int}{w:World}{C:Nat}{R:Cn×List Sg}{B:Nat}(hB:w.heap.size<=B):OwnFrom B (I1 f now w C R):=fun _ _ _ _ h hg hr =>
 ⟨h.1.marks hg (fun r e=>⟨Nat.le_trans hB (hr r e).1,(hr r e).2⟩),h.2.1.marks hg (fun r e=>(hr r e).2),h.2.2⟩
theorem td {f:Fp}{now:Int}{w:World}{C:Nat}{R s:Cn×List Sg}{W W':World}(h:I1 f now w C R s W)(hb:Below W.heap.size W W'):I1 f now w C R s W':=⟨h.1.below hb,h.2.1.below hb,h.2.2⟩
def eY (s:Cn×List Sg×Bool):Nat:=s.1.unsent.toNat
def gO (b:Bool):Nat:=if b=true then 0 else 1
def I2 (f:Fp)(now:Int)(w:World)(C:Nat)(R:Cn×List Sg)(s:Cn×List Sg×Bool)(W:World):Prop :=
 Pd f now w s.1 s.2.1 W/\Box1 C f.C 34 W/\s.2.1.length+eY s+gO s.2.2<=1200000000000/\(if s.2.2=true then(s.1,s.2.1)=R/\s.1.next=s.1.last+1 else ∃k,eY s<k/\finL now (sizeL now k s.1 s.2.1).1 (sizeL now k s.1 s.2.1).2=R)
theorem wg {f:Fp}{now:Int}{w:World}{C:Nat}{R:Cn×List Sg}{B:Nat}(hB:w.heap.size<=B):OwnFrom B (I2 f now w C R):=fun _ _ _ _ h hg hr =>
 ⟨h.1.marks hg (fun r e=>⟨Nat.le_trans hB (hr r e).1,(hr r e).2⟩),h.2.1.marks hg (fun r e=>(hr r e).2),h.2.2⟩
theorem te {f:Fp}{now:Int}{w:World}{C:Nat}{R:Cn×List Sg}{s:Cn×List Sg×Bool}{W W':World}(h:I2 f now w C R s W)(hb:Below W.heap.size W W'):I2 f now w C R s W':=⟨h.1.below hb,h.2.1.below hb,h.2.2⟩
theorem tf (f:Fp)(w:World) :
  Calls Tryz.prog 163 #[f.C] w fun e w'=>e= .returned (.func (.func 197) #[] #[w.heap.size])/\w'=w.alloc (.cells #[f.C] 34):=by
 go_enter Tryz.func163,Tryz.ntmps163
 go_wp2
 go_ret;exact⟨rfl,rfl⟩
theorem rK (f:Fp)(w:World) :
  Calls Tryz.prog 166 #[f.C] w fun e w'=>e= .returned (.func (.func 202) #[] #[w.heap.size])/\w'=w.alloc (.cells #[f.C] 34):=by
 go_enter Tryz.func166,Tryz.ntmps166
 go_wp2
 go_ret;exact⟨rfl,rfl⟩
theorem nk {c:Cn}(ok:c.Ok){now v:Int}(hv:xV c v):0<=v/\v<=1000/\(0<v->(c.out now v).unsent.toNat<c.unsent.toNat):=by
 have hm:=ok.mss;have hab:=ok.allowed_bd
 rcases hv with⟨h1,rfl⟩ | ⟨-,-,rfl⟩
 ·refine⟨by omega,by omega,fun _=> ?_⟩
  have hle:c.allowed<=c.unsent:=by
   have:=ok.unsent;unfold Cn.allowed;split
   ·omega
   split
   ·omega
   split <;> omega
  have hu:=ok.una;have hb:=ok.b1;have hlast:(c.out now c.allowed).last=c.last:=by unfold Cn.out Cn.freshC Cn.pieceC Cn.ackC;rfl
  have hun:c.unsent=max 0 (c.last-c.next):=rfl;have hft:c.next+c.allowed<=c.freshTo c.allowed/\c.freshTo c.allowed<=c.next+c.allowed+1:=by unfold Cn.freshTo;split <;> omega
  have hnx:(c.out now c.allowed).next=c.freshTo c.allowed:=by
   show(c.sc.sent (c.freshTo c.allowed)).next=_;unfold Sc.sent Sc.sentB;have e:c.sc.next=c.next:=rfl;rw[if_pos (decide_eq_true ⟨by omega,by omega⟩)]
  unfold Cn.unsent at *;rw[hlast,hnx];omega
 exact⟨by omega,by omega,fun h=>absurd h (by decide)⟩
theorem pE {c:Cn}(h:c.next=c.last+1){v:Int}(hv:xV c v):False:=by
 have hle:c.allowed<=max 0 c.unsent:=by
  unfold Cn.allowed;split
  ·omega
  split
  ·omega
  split <;> omega
 have hun:c.unsent=max 0 (c.last-c.next):=rfl
 rcases hv with⟨h1,-⟩ | ⟨-,h2,-⟩ <;> omega
theorem vK {now:Int}{R:Cn×List Sg}{s:Cn×List Sg×Bool}{v:Int}(ok:s.1.Ok)(hv:xV s.1 v)(h:if s.2.2=true then(s.1,s.2.1)=R/\s.1.next=s.1.last+1 else ∃k,eY s<k/\finL now (sizeL now k s.1 s.2.1).1 (sizeL now k s.1 s.2.1).2=R) :
  (0<v->eY (s.1.out now v,s.2.1++[s.1.freshS v],decide (v=0))<eY s) /\
  (if decide (v=0)=true then(s.1.out now v,s.2.1++[s.1.freshS v])=R/\(s.1.out now v).next=(s.1.out now v).last+1 else ∃k,eY (s.1.out now v,s.2.1++[s.1.freshS v],decide (v=0))<k/\finL now (sizeL now k (s.1.out now v) (s.2.1++[s.1.freshS v])).1 (sizeL now k (s.1.out now v) (s.2.1++[s.1.freshS v])).2=R) /\
  (s.2.1++[s.1.freshS v]).length+eY (s.1.out now v,s.2.1++[s.1.freshS v],decide (v=0))+gO (decide (v=0))<=s.2.1.length+eY s+gO s.2.2:=by
 obtain⟨f1,f2,f3⟩:=nk ok (now:=now) hv;refine⟨f3,?_⟩;rw[List.length_append,List.length_singleton];by_cases hd:s.2.2=true
 ·rw[if_pos hd]at h;exact(pE h.2 hv).elim
 rw[if_neg hd]at h;obtain⟨k,hk,hR⟩:=h;obtain⟨k0,rfl⟩:∃k0,k=k0+1:=⟨k-1,by omega⟩
 rcases hv with⟨h1,rfl⟩ | ⟨h1,h2,rfl⟩
 ·rw[if_neg (by simp;omega)];have f4:=f3 h1;have hsl:gO (decide (s.1.allowed=0))=1:=by unfold gO;rw[if_neg (by simp;omega)]
  have a5:gO s.2.2=1:=by unfold gO;rw[if_neg hd]
  refine⟨⟨k0,by unfold eY at hk|-;dsimp only;omega,?_⟩,by rw[hsl,a5];unfold eY;dsimp only;omega⟩;rw[sizeL,if_pos h1]at hR;exact hR
 rw[if_pos (by simp)];rw[sizeL,if_neg (by omega)]at hR;dsimp only at hR;unfold finL at hR;rw[if_pos h2]at hR;have hsl:gO (decide ((0:Int)=0))=0:=rfl;have a5:gO s.2.2=1:=by unfold gO;rw[if_neg hd]
 have hlast:(s.1.out now 0).last=s.1.last:=by unfold Cn.out Cn.freshC Cn.pieceC Cn.ackC;rfl
 have hu:=ok.una;have hb:=ok.b1;have hft:s.1.freshTo 0=s.1.next+1:=by unfold Cn.freshTo;rw[if_pos ⟨h2.1,by omega⟩];omega
 have hnx:(s.1.out now 0).next=s.1.freshTo 0:=by
  show(s.1.sc.sent (s.1.freshTo 0)).next=_;unfold Sc.sent Sc.sentB;have e:s.1.sc.next=s.1.next:=rfl;rw[if_pos (decide_eq_true ⟨by omega,by omega⟩)]
 have hx:(s.1.out now 0).next=(s.1.out now 0).last+1:=by rw[hlast,hnx];omega
 refine⟨⟨hR,hx⟩,?_⟩;rw[hsl,a5];have hu0:(s.1.out now 0).unsent=max 0 ((s.1.out now 0).last-(s.1.out now 0).next):=rfl;unfold eY;dsimp only;omega
theorem vM {now:Int}{R:Cn×List Sg}{s:Cn×List Sg×Bool}(hd:ta s.1 (s.2.2=true))(h:if s.2.2=true then(s.1,s.2.1)=R/\s.1.next=s.1.last+1 else ∃k,eY s<k/\finL now (sizeL now k s.1 s.2.1).1 (sizeL now k s.1 s.2.1).2=R):(s.1,s.2.1)=R:=by
 by_cases hf:s.2.2=true
 ·rw[if_pos hf]at h;exact h.1
 rw[if_neg hf]at h;obtain⟨k,hk,hR⟩:=h
 rcases hd with hd | ⟨h1,h2⟩
 ·exact absurd hd hf
 obtain⟨k0,rfl⟩:∃k0,k=k0+1:=⟨k-1,by omega⟩;rw[sizeL,if_neg (by omega)]at hR;dsimp only at hR;unfold finL at hR;rw[if_neg h2]at hR;exact hR
end
end Go.Proofs.YtclkcmidhhfdmaaGreatDoor
