import Derived.Test.YtcmncipikdpnbaaGreatDoorUb21
namespace Go.Proofs.YtcmncipikdpnbaaGreatDoor
section
set_option maxHeartbeats 8000000
set_option maxRecDepth 100000
open Go.RowKit Go.Shelf
attribute [local go_sem] Oper.semAt_some
theorem yZ {s:Sc}(ok:s.Ok){m:Int}(hm:1<=m):(s.lost m).length<=1099511627776:=by
 have h:=(bw ok hm).1;have h1:=aN h;have h2:=sF h;omega
def gO (c:Cn):Prop:=¬(c.sc.pipe c.gi<c.cg.win/\c.sc.lost c.gi≠[])
theorem vv {σ:Type} (st:σ->Cn) (A:σ->Nat) (n:Nat) (hn:1<=n) (l C:Nat) (f:Fp) (J:σ->World->Prop) (Jx:World->Prop)
  (hJ:∀s W,J s W->kf f (st s) W/\(st s).Ok/\W.cell? C=some (f.C:Y))
  (E:∀s W W',J s W->Below W.heap.size W W'->J s W')
  (hY:∀s x t W,J s W->(st s).sc.pipe (st s).gi<(st s).cg.win->(st s).sc.lost (st s).gi=x::t->YieldAt Fence.wide (n-1) Tryz.prog l #[.agg #[x.1,(aK (st s).gi x).2]] W fun e W' =>
   (e= .returned true/\∃s',A s'<A s/\J s' W')\/(e= .returned false/\Jx W'))
  (w:World) (X:σ) (h0:J X w) :
  CallsIn Fence.wide n Tryz.prog 166 #[.func (.yield l) #[] #[],C] w fun e W'=>(∃v,e= .returned v)/\((∃s,J s W'/\gO (st s))\/Jx W'):=by
 have i:=H hJ;have F:=H E;have HY:=H hY;have ax:=H h0;clear hJ E hY h0;refine NU Tryz.func166 Z trivial ?_ Z;simp only[Tryz.ntmps166,LG,Lx,M1,Nat.reduceAdd,Nat.reduceSub,M8,M7,Mk,Mf,LD,LQ];refine M9.2 ?_;go_wp2_with fail
 go_loopg [3] (A X) (fun g pv wr=>∃s,A s=g/\J s wr)
 case atStart=>exact⟨X,Z,ax.o⟩
 case round =>
  clear ax;obtain⟨s,hg,hI⟩:=hrel;have a:=H hI;clear hI;have y:=H (L4 wr.heap.size);have I:=(show(fun W:World=>W.cell? C=some (f.C:Y)/\W.cell? f.C=some (f.S:Y)/\W.cell? ⟨f.C,7,none⟩=some ((st s).gi:Y)/\W.cell? ⟨f.C,2,none⟩=some (f.G:Y)) wr from⟨(i.o _ _ a.o).2.2,(i.o _ _ a.o).1.cell 0 _ Z,(i.o _ _ a.o).1.cell 7 _ Z,(i.o _ _ a.o).1.cell 2 _ Z⟩);go_wp2_with fail;refine az (fun W:World=>W.cell? C=some (f.C:Y)/\W.cell? f.C=some (f.S:Y)/\W.cell? ⟨f.C,7,none⟩=some ((st s).gi:Y)/\W.cell? ⟨f.C,2,none⟩=some (f.G:Y)) (I) fun u=>?_;clear I;have p:=(L3 wr.heap.size wr).drew;replace a:=H (F.o _ _ _ a.o p);replace y:=H (L8 y.o p.size);clear p;obtain⟨y0,q⟩:∃y0,y0=wr.drew:=⟨_,Z⟩;rw[<-q]at a y u|-;clear q;refine aA 0 5 11 1 ?_;refine aA 6 12 2 7 ?_;refine aA 13 3 8 14 ?_;refine aM 4 9 ?_;refine aQ 15 ?_;refine aZ 10 fun K j=> ?_;go_simp;refine(me f.S (f.S+1) (st s).sc (st s).gi _ (i.o _ _ a.o).2.1.sc (i.o _ _ a.o).1.sc).mono ?_;rintro e T⟨rfl,p⟩;replace a:=H (F.o _ _ _ a.o p);replace y:=H (L8 y.o p.size);clear p;go_simp;refine j.out _ _ (⟨(i.o _ _ a.o).2.2,(i.o _ _ a.o).1.cell 0 _ Z,(i.o _ _ a.o).1.cell 7 _ Z,(i.o _ _ a.o).1.cell 2 _ Z⟩) ?_;clear j K u;refine fun u=>aW ?_;refine aZ 16 fun K j=> ?_;go_simp;refine(jS f.G (st s).cg _ (i.o _ _ a.o).1.cg).mono ?_;rintro e y2⟨rfl,rfl⟩;go_simp;refine j.out _ _ (⟨(i.o _ _ a.o).2.2,(i.o _ _ a.o).1.cell 0 _ Z,(i.o _ _ a.o).1.cell 7 _ Z,(i.o _ _ a.o).1.cell 2 _ Z⟩) ?_;clear j K u;refine fun u=>aW ?_;refine aQ 17 ?_;refine ay ?_ _;clear u;by_cases hp:(st s).sc.pipe (st s).gi<(st s).cg.win
  ·have HP:=H hp;have I:=(show(fun W:World=>W.cell? C=some (f.C:Y)/\W.cell? f.C=some (f.S:Y)/\W.cell? ⟨f.C,7,none⟩=some ((st s).gi:Y)) T from⟨(i.o _ _ a.o).2.2,(i.o _ _ a.o).1.cell 0 _ Z,(i.o _ _ a.o).1.cell 7 _ Z⟩);go_wp2_with fail;refine az (fun W:World=>W.cell? C=some (f.C:Y)/\W.cell? f.C=some (f.S:Y)/\W.cell? ⟨f.C,7,none⟩=some ((st s).gi:Y)) (I) fun u=>?_;clear I;have p:=(L3 T.heap.size T).drew;replace a:=H (F.o _ _ _ a.o p);replace y:=H (L8 y.o p.size);clear p;obtain⟨y2,M⟩:∃y2,y2=T.drew:=⟨_,Z⟩;rw[<-M]at a y u|-;clear M;refine aA 0 5 1 6 ?_;refine aA 2 7 3 8 ?_;refine aM 4 9 ?_;refine aZ 10 fun K j=> ?_;go_simp;refine(jU f.S (f.S+1) (st s).sc (st s).gi _ (i.o _ _ a.o).2.1.sc (i.o _ _ a.o).1.sc).mono ?_;rintro e r⟨v,rfl,hO,p⟩;have a7:=yZ (i.o _ _ a.o).2.1.sc (m:=(st s).gi) (by have:=(i.o _ _ a.o).2.1.gi;omega);obtain⟨la,lc,rfl,N,-,a0⟩:=hO.at a7;replace a:=H (F.o _ _ _ a.o p);replace y:=H (L8 y.o p.size);clear p;have a9:=H N;clear N a0 hO;go_simp;refine j.out _ _ (⟨(i.o _ _ a.o).2.2,(i.o _ _ a.o).1.cell 0 _ Z,(i.o _ _ a.o).1.cell 7 _ Z⟩) ?_;clear j K u;refine fun u=>aW ?_;refine aQ 11 ?_;refine ay ?_ _;clear u;have bI:=H (i.o _ _ a.o).2.1;have hm:=bI.gi;obtain⟨b7,b1⟩:=hm;have aa:=H (fun x (hx:x∈(st s).sc.lost (st s).gi)=>(dz bI.sc (m:=(st s).gi) O hx))
   cases hl:(st s).sc.lost (st s).gi with
   | nil =>
    rw[hl]at a9;have HL:=H hl;clear hl a7;go_wp2_with fail;refine Lm (LV Z _ _ _) Z ?_;exact⟨⟨_,Z⟩,.inl ⟨s,a.o,fun h=>h.2 HL.o⟩⟩
   | cons x t =>
    rw[hl]at a9 aa;have HL:=H hl;have b3:((x::t:List Sp).length:Int)=(t.length:Int)+1:=FE
    clear hl a7;obtain⟨b,off,rfl,b5,P⟩:=a9.cells FE;obtain⟨d0,d1⟩:=P 0 FE;clear P;have ab:=(aa.o x FE).1;have b4:=(aa.o x FE).2;simp only[MC,No,Nq]at d0 d1;obtain⟨k,z⟩:=x;dsimp only at d0 d1 ab b4;unfold ib at ab;dsimp only at ab;have c7:=(i.o _ _ a.o).1.cell 7 (st s).gi Z;have cC:=(i.o _ _ a.o).2.2;have b6:f.C<r.heap.size:=(i.o _ _ a.o).1.lt;have b8:C<r.heap.size:=Lj cC;have a1:C≠r.heap.size:=O
    have a2:f.C≠r.heap.size:=O
    go_wp2_with fail
    go_region
    have b2:=((L3 r.heap.size r).alloc (L4 _) (.cells #[k,(min z (k+(st s).gi):Int)] 149)).drew;have U:=F.o s _ _ a.o b2;have q:=HY.o s (k,z) t _ U HP.o HL.o;unfold aK at q;dsimp only at q;have e0:=(show At r.heap.size 0 k ((r.alloc (.cells #[k,(min z (k+(st s).gi):Int)] 149)).drew)from(At.new _ Z rfl:At r.heap.size 0 k (r.alloc (.cells #[k,(min z (k+(st s).gi):Int)] 149)))).1;have e1:=(show At r.heap.size 1 (min z (k+(st s).gi):Int) ((r.alloc (.cells #[k,(min z (k+(st s).gi):Int)] 149)).drew)from(At.new _ Z rfl:At r.heap.size 1 (min z (k+(st s).gi):Int) (r.alloc (.cells #[k,(min z (k+(st s).gi):Int)] 149)))).1
    go_upto_region 5 with fail
    generalize (r.alloc (.cells #[k,(min z (k+(st s).gi):Int)] 149)).drew=w5 at q U e0 e1|-;obtain⟨fn,a5,V,b0,hy,hR⟩:=q;clear b2 d0 d1 c7 cC a1 a2;refine(M9 (n:=n)).1 ?_
    gi_wp2
    refine hR.mono ?_;rintro e w6 (⟨rfl,s',b9,a3⟩ | ⟨rfl,a4⟩)
    ·clear hy hR e0 e1 U
     gi_wp2
     go_wp2_with fail
     go_roundg (A s')
     case measure=>omega
     case rel=>exact⟨s',Z,a3⟩
    clear hy hR e0 e1 U
    gi_wp2
    go_wp2_with fail;refine Lm (LV Z _ _ _) Z ?_;exact⟨⟨_,Z⟩,.inr a4⟩
  have HP:=H hp;go_wp2_with fail
  go_end0
  exact⟨⟨_,Z⟩,.inl ⟨s,a.o,fun h=>absurd h.1 (by have:=HP.o;omega)⟩⟩
end
section
open Go.RowKit Go.Shelf
def ya {σ:Type}(B:Nat)(I:σ->World->Prop)(a:Code->World->Prop)(R:σ->σ->Prop)(s:σ)(W:World):Exit->Act->World->Prop
 | .normal,_,W'=>KeepsFrom B W W'/\∃s',R s' s/\I s' W'
 | .exit i,_,W'=>KeepsFrom B W W'/\a (.exit i) W'
 | _,_,_=>False
theorem Af {σ:Type}{g:Operand}{ps:Array Tmp}{assign body:Code}{Q:Exit->Act->World->Prop}{a:Act}{w:World}{n C:Nat}{f:Fp}(hn:2<=n)(st:σ->Cn)(ms:σ->Nat)
  (hg:a.eval g= .func (.func 166) #[] #[C]){p:Tmp}(a2:ps= #[p])
  (I:σ->World->Prop)(V:Code->World->Prop)(X:OwnFrom w.heap.size I)(N:OwnFrom w.heap.size V)
  (a4:∀s W,I s W->kf f (st s) W/\(st s).Ok/\W.cell? C=some (f.C:Y))(a6:∀s W W',I s W->Below W.heap.size W W'->I s W')
  (s0:σ)(h0:I s0 w)
  (y:∀l s (x:Sp) (t:List Sp) W,w.heap.size<=l->w.heap.size+2<=W.heap.size->I s W->(st s).sc.pipe (st s).gi<(st s).cg.win->(st s).sc.lost (st s).gi=x::t ->
   assign.wpIn (Fence.wide.inRound l) (n-1-1) Tryz.prog (Exit.then (fun a' W'=>KeepsFrom w.heap.size W W'/\∃Ax:Unit->World->Prop,OwnFrom w.heap.size Ax/\Ax () W'/\∀W2,Ax () W2->body.wpIn (Fence.wide.inRound l) (n-1-1) Tryz.prog (ya w.heap.size I V (fun s' s=>ms s'<ms s) s W2) a' W2) (fun _ _ _=>False))
    { tmps:=a.tmps.setIfInBounds p (.agg #[x.1,(aK (st s).gi x).2]),defers:=[] } W)
  (F:∀(b:Nat) (W:World) (s:σ),w.heap.size<=b->I s W->gO (st s)->W.heap[b]? =some (.deferred (some []))->Q .normal { a with defers:={ target:=.collected b,args:= #[] }::a.defers } W)
  (G:∀(b:Nat) (c:Code) (W:World),w.heap.size<=b->V c W->W.heap[b]? =some (.deferred (some []))->c.wpIn Fence.wide n Tryz.prog Q { a with defers:={ target:=.collected b,args:= #[] }::a.defers } W) :
  (Code.rangeFunc g ps assign body).wpIn Fence.wide n Tryz.prog Q a w:=by
 subst a2;refine wpIn_rangeFunc (fun fn b5=> ?_);obtain⟨k,j⟩:∃k:LoopState->Option Code->Loop,k=fun st pe=>{ state:=st,pending:=pe,fn:=fn,tmps:=a.tmps,params:= #[p],assign:=assign,body:=body,defers:=w.heap.size }:=⟨_,Z⟩;obtain⟨u,o⟩:∃u,u=(w.alloc (.deferred (some []))).alloc (.loop (k .ready none)):=⟨_,Z⟩;have hz:u.heap.size=w.heap.size+2:=by rw[o];simp
 have ac:u.heap[w.heap.size+1]? =some (.loop (k .ready none)):=by
  have:=World.alloc_heap_new (w.alloc (.deferred (some []))) (.loop (k .ready none));rw[LX]at this;rw[o];exact this
 have a7:u.heap[w.heap.size]? =some (.deferred (some [])):=by
  rw[o];exact(Me _ _ _ (by simp)).trans (World.alloc_heap_new w _)
 have ad:I s0 u:=by rw[o];exact X.alloc _ (X.alloc _ h0)
 refine⟨w.heap.size+1,[{ target:=.collected w.heap.size,args:= #[] }],u,{ target:=.fn (.func 166) #[C],args:= #[.func (.yield (w.heap.size+1)) #[] #[]] },u,166,#[.func (.yield (w.heap.size+1)) #[] #[],C],u,?_,?_,fun _ _=>trivial,?_,fun _=>by omega,?_⟩
 ·rw[o,j];exact run_enterLoop_outer _ _ _ _ _
 ·simp only[resolve,hg]
  simp[go_sem]
 ·simp[invoke,go_sem]
 have a9:=vv st ms (n-1) (by omega) (w.heap.size+1) C f
  (fun s W=>I s W/\W.heap[w.heap.size+1]? =some (.loop (k .ready none))/\W.heap[w.heap.size]? =some (.deferred (some [])))
  (fun W=>∃c,V c W/\W.heap[w.heap.size+1]? =some (.loop (k .done (some c)))/\W.heap[w.heap.size]? =some (.deferred (some [])))
  (fun s W h=>a4 s W h.1)
  (fun s W W' h hb=>⟨a6 s W W' h.1 hb,(hb.block _ (L6.1 h.2.1).1).trans h.2.1,(hb.block _ (L6.1 h.2.2).1).trans h.2.2⟩)
  ?_ u s0 ⟨ad,ac,a7⟩
 ·refine a9.mono ?_;rintro e W2⟨⟨v,rfl⟩,(⟨s,⟨hi,A,S⟩,b0⟩ | ⟨c,hi,A,S⟩)⟩
  ·have m:=run_endLoop (P:=Tryz.prog) A (by rw[j];simp);have a5:(k .ready none).pending=none:=by rw[j]
   rw[a5]at m;exact⟨none,_,m,F w.heap.size _ s (L4 _) (X.putObj _ hi (by omega) A Z) b0 ((World.putObj_heap_other (by omega)).trans S)⟩
  have m:=run_endLoop (P:=Tryz.prog) A (by rw[j];simp);have a5:(k .done (some c)).pending=some c:=by rw[j]
  rw[a5]at m;exact⟨some c,_,m,G w.heap.size c _ (L4 _) (N.putObj _ hi (by omega) A Z) ((World.putObj_heap_other (by omega)).trans S)⟩
 rintro s x t W⟨hi,A,S⟩ b1 b2;have ag:w.heap.size+2<=W.heap.size:=by have:=(L6.1 A).1;omega
 subst j;have ak:∀x:Value,(#[p].zip #[x]).foldl (fun t (z:Tmp×Value)=>t.setIfInBounds z.1 z.2) a.tmps=a.tmps.setIfInBounds p x:=fun x=>by simp
 refine ge (r:={ state:=.ready,pending:=none,fn:=fn,tmps:=a.tmps,params:= #[p],assign:=assign,body:=body,defers:=w.heap.size }) (B:=w.heap.size) Z Z Z A (by omega) (N5 (a:={ tmps:=_,defers:=[] }) (by dsimp only;rw[ak];exact y (w.heap.size+1) s x t W (by omega) ag hi b1 b2) ?_);intro e a' W' he
 cases e with
 | normal =>
  obtain⟨J,Ax,al,am,an⟩:=he;have T:=J.same _ _ (by omega) A Z;have b3:=J.same _ _ (L4 _) S Z;have b4:=(L6.1 T).1;refine⟨J,N5 (an _ (al.putObj (s:=()) _ am (by omega) T Z)) ?_⟩;intro e3 a3 K E;have fin:∀(K:World),KeepsFrom w.heap.size (W'.putObj (w.heap.size+1) (.loop { state:=.busy,pending:=none,fn:=fn,tmps:=a.tmps,params:= #[p],assign:=assign,body:=body,defers:=w.heap.size })) K->K.heap[w.heap.size+1]? =some (.loop { state:=.busy,pending:=none,fn:=fn,tmps:=a.tmps,params:= #[p],assign:=assign,body:=body,defers:=w.heap.size })/\K.heap[w.heap.size]? =some (.deferred (some [])):=fun K q=>And.intro (q.same _ _ (by omega) (World.putObj_heap_same b4) Z) (q.same _ _ (L4 _) ((World.putObj_heap_other (by omega)).trans b3) Z)
  cases e3 with
  | normal =>
   obtain⟨q,s',a1,av⟩:=E;obtain⟨U,M⟩:=fin K q;exact⟨q,.inl ⟨Z,s',a1,X.putObj _ av (by omega) U Z,World.putObj_heap_same (L6.1 U).1,(World.putObj_heap_other (by omega)).trans M⟩⟩
  | exit i =>
   obtain⟨U,M⟩:=fin K E.1;exact⟨E.1,.inr ⟨Z,.exit i,N.putObj _ E.2 (by omega) U Z,World.putObj_heap_same (L6.1 U).1,(World.putObj_heap_other (by omega)).trans M⟩⟩
  | ret=>exact E.elim
  | goto t=>exact E.elim
  | panic c=>exact E.elim
  | outgrown=>exact E.elim
 | ret=>exact he.elim
 | exit i=>exact he.elim
 | goto t=>exact he.elim
 | panic c=>exact he.elim
 | outgrown=>exact he.elim
end
section
set_option maxHeartbeats 8000000
set_option maxRecDepth 100000
open Go.RowKit Go.Shelf
attribute [local go_sem] Oper.semAt_some
theorem kA {c:Cn}(ok:c.Ok): -1099511627776<=c.base/\c.base<=1099511627776:=by have:=ok.b0;have:=ok.E6;omega
theorem kB {c:Cn}(ok:c.Ok):c.held.length<=1099511627776:=by have:=ok.hlen;omega
def C6 (c:Cn)(v:Int):Prop:=(0<c.allowed/\v=c.allowed)\/(c.allowed<=0/\(c.shut=true/\c.next=c.last)/\v=0)
def yb (c:Cn)(d:Prop):Prop:=d\/(c.allowed<=0/\¬(c.shut=true/\c.next=c.last))
theorem sr {σ:Type} (st:σ->Cn) (z:σ->Nat) (dn:σ->Prop) (n:Nat) (hn:1<=n) (l C:Nat) (f:Fp) (J:σ->World->Prop)
  (V:∀s W,J s W->kf f (st s) W/\(st s).Ok/\W.cell? C=some (f.C:Y))
  (A:∀s W W',J s W->Below W.heap.size W W'->J s W')
  (X:∀s v W,J s W->C6 (st s) v->YieldAt Fence.wide (n-1) Tryz.prog l #[.int .i64 v] W fun e W'=>e= .returned true/\∃s',J s' W'/\(0<v->z s'<z s)/\(v=0->dn s'))
  (w:World) (M:σ) (h0:J M w) :
  CallsIn Fence.wide n Tryz.prog 171 #[.func (.yield l) #[] #[],C] w fun e W'=>(∃v,e= .returned v)/\∃s,J s W'/\yb (st s) (dn s):=by
 have i:=H V;have x:=H A;have HY:=H X;have a:=H h0;clear V A X h0;refine NU Tryz.func171 Z trivial ?_ Z;simp only[Tryz.ntmps171,LG,Lx,M1,Nat.reduceAdd,Nat.reduceSub,M8,M7,Mk,Mf,LD,LQ];refine M9.2 ?_;have N:=(i.o _ _ a.o).2.2;go_wp2_with fail;refine(jz f (st M) _ (i.o _ _ a.o).1 (i.o _ _ a.o).2.1).mono ?_;rintro e w1⟨rfl,j⟩;replace a:=H (x.o _ _ _ a.o j);clear j;clear N;go_wp2_with fail
 go_loopg [3] (z M) (fun g nv wr=>∃s,z s=g/\nv=((st s).allowed:Y)/\J s wr)
 case atStart=>exact⟨M,Z,Z,a.o⟩
 case round =>
  clear a;obtain⟨s,hg,rfl,hI⟩:=hrel;have a:=H hI;clear hI;by_cases P:0<(st s).allowed
  ·have r:=HY.o s _ _ a.o (.inl ⟨P,Z⟩);obtain⟨fn,E,m,F,hy,G⟩:=r;have y:=H P
   go_upto_region 3 with fail
   refine(M9 (n:=n)).1 ?_
   gi_wp2
   refine G.mono ?_;rintro e w6⟨rfl,s',p,I,-⟩;have I:=I y.o;clear hy G y P a;have a:=H p;clear p;have N:=(i.o _ _ a.o).2.2
   gi_wp2
   go_wp2_with fail;refine(jz f (st s') _ (i.o _ _ a.o).1 (i.o _ _ a.o).2.1).mono ?_;rintro e w7⟨rfl,j⟩;replace a:=H (x.o _ _ _ a.o j);clear j;clear N;go_wp2_with fail
   go_roundg (z s')
   case measure=>omega
   case rel=>exact⟨s',Z,Z,a.o⟩
  cases hsh:(st s).shut with
  | true =>
   have u:=H hsh;clear hsh;have K:=(show(fun W:World=>W.cell? C=some (f.C:Y)/\W.cell? ⟨f.C,9,none⟩=some (true:Y)) wr from⟨(i.o _ _ a.o).2.2,(i.o _ _ a.o).1.cell 9 true (congrArg (fun b=>some (Value.bool b)) u.o)⟩);go_wp2_with fail;refine az (fun W:World=>W.cell? C=some (f.C:Y)/\W.cell? ⟨f.C,9,none⟩=some (true:Y)) (K) fun q=>?_;clear K;have j:=(L3 wr.heap.size wr).drew;replace a:=H (x.o _ _ _ a.o j);clear j;generalize wr.drew=y0 at a q|-;refine aA 0 1 2 3 ?_;refine aA 4 5 6 10 ?_;refine aA 7 11 8 12 ?_;refine aZ 9 fun S k=> ?_;go_simp;refine(aX f (st s) _ (i.o _ _ a.o).1).mono ?_;rintro e T⟨rfl,j⟩;replace a:=H (x.o _ _ _ a.o j);clear j;go_simp;refine k.out _ _ (⟨(i.o _ _ a.o).2.2,(i.o _ _ a.o).1.cell 9 true (congrArg (fun b=>some (Value.bool b)) u.o)⟩) ?_;clear k S q;refine fun q=>aW ?_;refine aZ 13 fun S k=> ?_;go_simp;refine(ez f (st s) _ (i.o _ _ a.o).1 (kA (i.o _ _ a.o).2.1) (kB (i.o _ _ a.o).2.1)).mono ?_;rintro e y2⟨rfl,rfl⟩;have j:=(L3 T.heap.size T).drew;replace a:=H (x.o _ _ _ a.o j);clear j;generalize T.drew=y2 at a|-;go_simp;refine k.out _ _ (⟨(i.o _ _ a.o).2.2,(i.o _ _ a.o).1.cell 9 true (congrArg (fun b=>some (Value.bool b)) u.o)⟩) ?_;clear k S q;refine fun q=>aW ?_;refine aM 14 15 ?_;refine ay ?_ _;clear q;by_cases he:(st s).next=(st s).last
   ·have hd:((st s).next==(st s).last)=true:=Mb.2 he;have r:=HY.o s 0 _ a.o (.inr ⟨O,⟨u.o,he⟩,Z⟩);obtain⟨fn,E,m,F,hy,G⟩:=r;clear he
    go_upto_region 5 with fail
    refine(M9 (n:=n)).1 ?_
    gi_wp2
    refine G.mono ?_;rintro e w6⟨rfl,s',p,-,U⟩;clear hy G
    gi_wp2
    go_wp2_with fail
    go_end0
    exact⟨⟨_,Z⟩,s',p,.inl (U trivial)⟩
   have hd:((st s).next==(st s).last)=false:=Ll.2 he;have HE:=H he;clear he;have y:=H (show ¬0<(st s).allowed by omega);go_wp2_with fail
   go_end0
   exact⟨⟨_,Z⟩,s,a.o,.inr ⟨by have:=y.o;omega,fun h=>HE.o h.2⟩⟩
  | false =>
   have u:=H hsh;clear hsh;have K:=(show(fun W:World=>W.cell? C=some (f.C:Y)/\W.cell? ⟨f.C,9,none⟩=some (false:Y)) wr from⟨(i.o _ _ a.o).2.2,(i.o _ _ a.o).1.cell 9 false (congrArg (fun b=>some (Value.bool b)) u.o)⟩);go_wp2_with fail;refine az (fun W:World=>W.cell? C=some (f.C:Y)/\W.cell? ⟨f.C,9,none⟩=some (false:Y)) (K) fun q=>?_;clear K;have j:=(L3 wr.heap.size wr).drew;replace a:=H (x.o _ _ _ a.o j);clear j;generalize wr.drew=y0 at a q|-;refine aA 0 1 2 3 ?_;refine aM 4 5 ?_;refine aU 6 ?_;refine aU 7 ?_;refine aU 8 ?_;refine aU 9 ?_;refine aU 10 ?_;refine aU 11 ?_;refine aU 12 ?_;refine aU 13 ?_;refine aU 14 ?_;refine aQ 15 ?_;refine ay ?_ _;clear q;have y:=H (show ¬0<(st s).allowed by omega);go_wp2_with fail
   go_end0
   exact⟨⟨_,Z⟩,s,a.o,.inr ⟨by have:=y.o;omega,fun h=>by have:=h.1;rw[u.o]at this;cases this⟩⟩
def vx {σ:Type}(B:Nat)(I:σ->World->Prop)(R:σ->σ->Prop)(s:σ)(W:World):Exit->Act->World->Prop
 | .normal,_,W'=>KeepsFrom B W W'/\∃s',R s' s/\I s' W'
 | _,_,_=>False
theorem yc {σ:Type}{g:Operand}{ps:Array Tmp}{assign body:Code}{Q:Exit->Act->World->Prop}{a:Act}{w:World}{n C:Nat}{f:Fp}(hn:2<=n)(st:σ->Cn)(T:σ->Nat)(dn:σ->Prop)
  (hg:a.eval g= .func (.func 171) #[] #[C]){p:Tmp}(U:ps= #[p])
  (I:σ->World->Prop)(M:OwnFrom w.heap.size I)
  (V:∀s W,I s W->kf f (st s) W/\(st s).Ok/\W.cell? C=some (f.C:Y))(X:∀s W W',I s W->Below W.heap.size W W'->I s W')
  (s0:σ)(h0:I s0 w)
  (u:∀l s (v:Int) W,w.heap.size<=l->w.heap.size+2<=W.heap.size->I s W->C6 (st s) v ->
   assign.wpIn (Fence.wide.inRound l) (n-1-1) Tryz.prog (Exit.then (fun a' W'=>KeepsFrom w.heap.size W W'/\∃N:Unit->World->Prop,OwnFrom w.heap.size N/\N () W'/\∀S,N () S->body.wpIn (Fence.wide.inRound l) (n-1-1) Tryz.prog (vx w.heap.size I (fun s' s=>(0<v->T s'<T s)/\(v=0->dn s')) s S) a' S) (fun _ _ _=>False))
    { tmps:=a.tmps.setIfInBounds p v,defers:=[] } W)
  (A:∀(b:Nat) (W:World) (s:σ),w.heap.size<=b->I s W->yb (st s) (dn s)->W.heap[b]? =some (.deferred (some []))->Q .normal { a with defers:={ target:=.collected b,args:= #[] }::a.defers } W) :
  (Code.rangeFunc g ps assign body).wpIn Fence.wide n Tryz.prog Q a w:=by
 subst U;refine wpIn_rangeFunc (fun fn b2=> ?_);obtain⟨j,k⟩:∃j:LoopState->Option Code->Loop,j=fun st pe=>{ state:=st,pending:=pe,fn:=fn,tmps:=a.tmps,params:= #[p],assign:=assign,body:=body,defers:=w.heap.size }:=⟨_,Z⟩;obtain⟨q,m⟩:∃q,q=(w.alloc (.deferred (some []))).alloc (.loop (j .ready none)):=⟨_,Z⟩;have hz:q.heap.size=w.heap.size+2:=by rw[m];simp
 have ac:q.heap[w.heap.size+1]? =some (.loop (j .ready none)):=by
  have:=World.alloc_heap_new (w.alloc (.deferred (some []))) (.loop (j .ready none));rw[LX]at this;rw[m];exact this
 have a2:q.heap[w.heap.size]? =some (.deferred (some [])):=by
  rw[m];exact(Me _ _ _ (by simp)).trans (World.alloc_heap_new w _)
 have ad:I s0 q:=by rw[m];exact M.alloc _ (M.alloc _ h0)
 refine⟨w.heap.size+1,[{ target:=.collected w.heap.size,args:= #[] }],q,{ target:=.fn (.func 171) #[C],args:= #[.func (.yield (w.heap.size+1)) #[] #[]] },q,171,#[.func (.yield (w.heap.size+1)) #[] #[],C],q,?_,?_,fun _ _=>trivial,?_,fun _=>by omega,?_⟩
 ·rw[m,k];exact run_enterLoop_outer _ _ _ _ _
 ·simp only[resolve,hg]
  simp[go_sem]
 ·simp[invoke,go_sem]
 have a4:=sr st T dn (n-1) (by omega) (w.heap.size+1) C f
  (fun s W=>I s W/\W.heap[w.heap.size+1]? =some (.loop (j .ready none))/\W.heap[w.heap.size]? =some (.deferred (some [])))
  (fun s W h=>V s W h.1)
  (fun s W W' h hb=>⟨X s W W' h.1 hb,(hb.block _ (L6.1 h.2.1).1).trans h.2.1,(hb.block _ (L6.1 h.2.2).1).trans h.2.2⟩)
  ?_ q s0 ⟨ad,ac,a2⟩
 ·refine a4.mono ?_;rintro e S⟨⟨v,rfl⟩,s,⟨hi,F,hd⟩,a6⟩;have y:=run_endLoop (P:=Tryz.prog) F (by rw[k];simp);have a5:(j .ready none).pending=none:=by rw[k]
  rw[a5]at y;exact⟨none,_,y,A w.heap.size _ s (L4 _) (M.putObj _ hi (by omega) F Z) a6 ((World.putObj_heap_other (by omega)).trans hd)⟩
 rintro s v W⟨hi,F,hd⟩ a7;have ag:w.heap.size+2<=W.heap.size:=by have:=(L6.1 F).1;omega
 subst k;have ak:∀x:Value,(#[p].zip #[x]).foldl (fun t (z:Tmp×Value)=>t.setIfInBounds z.1 z.2) a.tmps=a.tmps.setIfInBounds p x:=fun x=>by simp
 refine ge (r:={ state:=.ready,pending:=none,fn:=fn,tmps:=a.tmps,params:= #[p],assign:=assign,body:=body,defers:=w.heap.size }) (B:=w.heap.size) Z Z Z F (by omega) (N5 (a:={ tmps:=_,defers:=[] }) (by dsimp only;rw[ak];exact u (w.heap.size+1) s v W (by omega) ag hi a7) ?_);intro e a' W' he
 cases e with
 | normal =>
  obtain⟨E,N,al,am,an⟩:=he;have K:=E.same _ _ (by omega) F Z;have a9:=E.same _ _ (L4 _) hd Z;have b0:=(L6.1 K).1;refine⟨E,N5 (an _ (al.putObj (s:=()) _ am (by omega) K Z)) ?_⟩;intro e3 a3 G J;have fin:∀(G:World),KeepsFrom w.heap.size (W'.putObj (w.heap.size+1) (.loop { state:=.busy,pending:=none,fn:=fn,tmps:=a.tmps,params:= #[p],assign:=assign,body:=body,defers:=w.heap.size })) G->G.heap[w.heap.size+1]? =some (.loop { state:=.busy,pending:=none,fn:=fn,tmps:=a.tmps,params:= #[p],assign:=assign,body:=body,defers:=w.heap.size })/\G.heap[w.heap.size]? =some (.deferred (some [])):=fun G o=>And.intro (o.same _ _ (by omega) (World.putObj_heap_same b0) Z) (o.same _ _ (L4 _) ((World.putObj_heap_other (by omega)).trans a9) Z)
  cases e3 with
  | normal =>
   obtain⟨o,s',a1,av⟩:=J;obtain⟨a0,b1⟩:=fin G o;exact⟨o,Z,s',⟨M.putObj _ av (by omega) a0 Z,World.putObj_heap_same (L6.1 a0).1,(World.putObj_heap_other (by omega)).trans b1⟩,a1⟩
  | exit i=>exact J.elim
  | ret=>exact J.elim
  | goto t=>exact J.elim
  | panic c=>exact J.elim
  | outgrown=>exact J.elim
 | ret=>exact he.elim
 | exit i=>exact he.elim
 | goto t=>exact he.elim
 | panic c=>exact he.elim
 | outgrown=>exact he.elim
end
section
open Go.RowKit Go.Shelf
theorem rH {n:Nat}{P:Program}{row:String}{args:Array Value}{w:World}{R:Value->World->Prop}(h:Rows P row args w R):RowsIn Fence.wide n P row args w R :=
 fun c cs _=>let ⟨v,w',r,s⟩:=h c cs;⟨v,w',r,stepsIn_wide.2 s⟩
theorem mj {l n:Nat}(b:1<=n){P:Program}{o:Oper}{a:Act}{K:Act->World->Prop}{Q:Exit->Act->World->Prop}{r:Result Next}(h:o.upon P a K Q r):o.uponIn (Fence.wide.inRound l) n P a K Q r:=by
 cases r with
 | ok x w' =>
  cases x with
  | value v=>exact h
  | skip=>exact h
  | defer d=>exact h
  | enter f args=>exact⟨fun _=>b,CallsIn.inRound l (MB.2 h)⟩
  | row row args=>exact⟨fun _=>b,rH h⟩
  | _=>exact h.elim
 | halt x w' =>
  cases x with
  | panic v=>exact h
  | _=>exact h.elim
theorem mo {l n:Nat}(k:1<=n){P:Program}{b:Array Oper}{Q:Exit->Act->World->Prop}{i:Nat}{K j:Act->World->Prop}{a:Act}{w:World}(hd:∀o∈b,∀c,o.op≠ .defer c)(e:¬LetsOut Q)
  (g:∀a w,K a w->j a w)(h:wpOp P b Q i K a w):wpOpIn (Fence.wide.inRound l) n P b Q i j a w:=by
 unfold wpOp at h;unfold wpOpIn
 cases ho:b[i]? with
 | none=>rw[ho]at h;exact g _ _ h
 | some o =>
  rw[ho]at h;dsimp only at h|-;by_cases hw:Region.wanted o (yielded b a.tmps)=true
  ·rw[L7 hw]at h|-
   rcases h with h | ⟨-,h⟩
   ·refine Oper.wpIn_mono g ⟨fun _ _=>trivial,?_⟩;rw[Oper.semAt_eq _ _ _ (hd o (Array.mem_of_getElem? ho))];exact mj k h
   exact absurd h e
  rw[L5 hw]at h|-;exact⟨fun _ _=>trivial,g _ _ h⟩
theorem gP {l n:Nat}(j:1<=n){P:Program}{k:Region.Mode}{e:Array Oper}{Q:Exit->Act->World->Prop}(hd:∀o∈e,∀c,o.op≠ .defer c)(g:¬LetsOut Q) :
  ∀(fuel:Nat) (b:Array Bool) (a:Act) (w:World),wpAny P k e Q fuel b a w->wpAnyIn (Fence.wide.inRound l) n P k e Q fuel b a w
 | 0,_,_,_,h=>h
 | fuel+1,_,_,_,h=>⟨h.1,fun i hi=>mo j hd g (fun m w' p=>gP j hd g fuel _ m w' p) (h.2 i hi)⟩
def Bt (Q:Exit->Act->World->Prop):Exit->Act->World->Prop
 | .normal,a,w=>Q .normal a w
 | _,_,_=>False
def uL (a:Array Oper):Bool:=a.toList.all fun o=>match o.op with | .defer _=>false | _=>true
theorem pX {a:Array Oper}(h:uL a=true):∀o∈a,∀c,o.op≠ .defer c:=by
 intro o b c e;have:=List.all_eq_true.1 h o Jk;rw[e]at this
 cases this
theorem cc {l n id:Nat}(g:1<=n){P:Program}{b:Array Oper}{Q:Exit->Act->World->Prop}{S:World->Prop}{a:Act}{w:World}(hm:P.follows .mixedOrders=true)(hd:uL b=true)(hS:S w.drew)
  (h:S w.drew->wpAnyH P .any b (Bt Q) S b.size (Array.replicate b.size false) a w.drew):(Code.region id b true).wpIn (Fence.wide.inRound l) n P Q a w :=
 N5 (Q:=Bt Q) (wpIn_region_any hm (gP g (pX hd) (fun⟨_,_,h⟩=>h) _ _ _ _ (wpAny_of_held _ _ _ _ (h hS)))) (fun e a w h=>by cases e <;> first | exact h | exact h.elim)
theorem br {f:Fp}{c:Cn}{W W':World}(h:kf f c W)(i:nA f W W')(B:Nat):KeepsFrom B W W':=by
 refine⟨i.size,fun k o _ g j=> ?_⟩
 have a:∀b t,dX W b t->k≠b:=by
  rintro b t⟨l,m,e⟩ rfl;rw[g]at e
  cases e
  cases j
 rw[i.block k (L6.1 g).1 (a _ _ h.zs) (a _ _ h.BU) (a _ _ h.BW) (a _ _ h.BX) (a _ _ h.BY) (a _ _ h.Cd)];exact g
theorem kf.marks {f:Fp}{c:Cn}{W W':World}{row:Option Nat}(h:kf f c W)(g:W.grownBy W' row)(hr:∀r,row=some r->eQ<=r/\∃o:Obj,W.heap[r]? =some o/\o.isCells=false):kf f c W':=by
 have a:∀b t,dX W b t->W'.heap[b]? =W.heap[b]? :=by
  rintro b t⟨n,p,e⟩;refine g.block b (L6.1 e).1 (fun he=> ?_);obtain⟨-,o,i,j⟩:=hr b he.symm;rw[e]at i
  cases i
  cases j
 exact h.keep ⟨g.os,g.tape,g.output,g.size,fun k l=>g.block k (Lb l h.gl.top) (fun e=>by have:=(hr k e.symm).1;omega)⟩ g.size (fun b m=>a b _ m) (a _ _ h.zs) (a _ _ h.BU) (a _ _ h.BW) (a _ _ h.BX) (a _ _ h.BY) (a _ _ h.Cd)
theorem aL.marks {W W':World}{base:Nat}{v:Value}{L:List Sg}{row:Option Nat}(h:aL W base v L)(g:W.grownBy W' row)(hr:∀r,row=some r->∃o:Obj,W.heap[r]? =some o/\o.isCells=false):aL W' base v L:=by
 obtain⟨M,e,h⟩:=h
 have a:∀b t,dX W b t->W'.heap[b]? =W.heap[b]? :=by
  rintro b t⟨m,n,e⟩;refine g.block b (L6.1 e).1 (fun he=> ?_);obtain⟨o,i,j⟩:=hr b he.symm;rw[e]at i
  cases i
  cases j
 exact⟨M,e,h.keep g.size (fun b l=>a b _ l) (fun k e=>a k _ (h.ty k e))⟩
theorem nA.marks {f:Fp}{w W W':World}{row:Option Nat}(h:nA f w W)(a:W.grownBy W' row)(hr:∀r,row=some r->w.heap.size<=r):nA f w W':=h.grown a hr
theorem aL.sT {f:Fp}{c:Cn}{w w':World}{base:Nat}{v:Value}{L:List Sg}(h:aL w base v L)(b:kf f c w)(a:nA f w w'):aL w' base v L:=by
 obtain⟨M,e,h⟩:=h;exact⟨M,e,h.sT b a⟩
end
section
open Go.RowKit Go.Shelf
def zt (B:Nat)(v:Value)(t:TypeId)(W:World):Prop:=W.heap[B]? =some (.cells #[v] t (0,0))
namespace zt
variable {B : Nat} {v : Value} {t : TypeId} {W W' : World}
theorem new (w:World)(v:Value)(t:TypeId):zt w.heap.size v t (w.alloc (.cells #[v] t)):=Lp _ _
theorem ty (h:zt B v t W):dX W B t:=⟨_,_,h⟩
theorem lt (h:zt B v t W):B<W.heap.size:=h.ty.lt
theorem cell (h:zt B v t W):W.cell? B=some v:=by rw[Ln _ _ _ _ _ _ h];rfl
theorem free (h:zt B v t W):W.frozen? B=false:=LT _ _ _ _ _ h
theorem below (h:zt B v t W)(a:Below W.heap.size W W'):zt B v t W':=(a.block B h.lt).trans h
theorem set (h:zt B v t W)(u:Value):zt B u t (W.setCell B u):=by
 unfold zt;rw[LH _ _ _ _ _ _ h];rfl
theorem other (h:zt B v t W){C:Nat}(a:B≠C)(i:Nat)(u:Value):zt B v t (W.setCell ⟨C,i,none⟩ u):=(((lh.refl C W).setCell i u).block B h.lt a).trans h
theorem sT {f:Fp}{c:Cn}(h:zt B v t W)(a:kf f c W)(b:nA f W W')(h1:t≠85)(h2:t≠135)(e:t≠142)(g:t≠132)(i:t≠120)(j:t≠5):zt B v t W' :=
 (b.block B h.lt (h.ty.ne a.zs h1) (h.ty.ne a.BU h2) (h.ty.ne a.BW e) (h.ty.ne a.BX g) (h.ty.ne a.BY i) (h.ty.ne a.Cd j)).trans h
theorem grown (h:zt B v t W){r:Option Nat}(a:W.grownBy W' r)(hr:∀k,r=some k->dX W k 53)(b:t≠53):zt B v t W' :=
 (a.block B h.lt (fun e=>h.ty.ne (hr B e.symm) b Z)).trans h
theorem marks (h:zt B v t W){row:Option Nat}(b:W.grownBy W' row)(hr:∀r,row=some r->∃o:Obj,W.heap[r]? =some o/\o.isCells=false):zt B v t W':=by
 refine(b.block B h.lt (fun e=> ?_)).trans h;obtain⟨o,a,g⟩:=hr B e.symm;rw[h]at a
 cases a
 cases g
end zt
structure Pd (f:Fp)(now:Int)(w:World)(c:Cn)(L:List Sg)(W:World):Prop where
 cn:kf f c W
 ok:c.Ok
 bc:zt w.heap.size f.C 32 W
 bn:zt (w.heap.size+1) now 3 W
 bl:∃v,zt (w.heap.size+2) v 44 W/\aL W (w.heap.size+3) v L
 ch:nA f w W
 top:eQ<=w.heap.size
namespace Pd
variable {f : Fp} {now : Int} {w : World} {c d : Cn} {L : List Sg} {W W' : World}
theorem below (h:Pd f now w c L W)(a:Below W.heap.size W W'):Pd f now w c L W':=by
 obtain⟨v,h1,h2⟩:=h.bl;exact⟨h.cn.below a,h.ok,h.bc.below a,h.bn.below a,⟨v,h1.below a,h2.below a⟩,h.ch.trans (.A1 a),h.top⟩
theorem step (h:Pd f now w c L W)(hd:kf f d W')(ok:d.Ok)(a:nA f W W'):Pd f now w d L W':=by
 obtain⟨v,h1,h2⟩:=h.bl;exact⟨hd,ok,h.bc.sT h.cn a D D D D D D,h.bn.sT h.cn a D D D D D D,⟨v,h1.sT h.cn a D D D D D D,h2.sT h.cn a⟩,h.ch.trans a,h.top⟩
theorem marks (h:Pd f now w c L W){row:Option Nat}(b:W.grownBy W' row)(hr:∀r,row=some r->w.heap.size<=r/\∃o:Obj,W.heap[r]? =some o/\o.isCells=false):Pd f now w c L W':=by
 obtain⟨v,h1,h2⟩:=h.bl;have a:=fun r e=>(hr r e).2;exact⟨h.cn.marks b (fun r e=>⟨L8 h.top (hr r e).1,(hr r e).2⟩),h.ok,h.bc.marks b a,h.bn.marks b a,⟨v,h1.marks b a,h2.marks b a⟩,h.ch.marks b (fun r e=>(hr r e).1),h.top⟩
theorem size (h:Pd f now w c L W):w.heap.size+2<W.heap.size:=by
 obtain⟨v,h1,-⟩:=h.bl;exact h1.lt
theorem emit (h:Pd f now w c L W){M:List cQ}{v v':Value}{x:cQ}(r:M.map (·.1)=L)(ho:cI W (w.heap.size+3) v M)(j:cI W' (w.heap.size+3) v' (M++[x]))(b:W.grownBy W' v.ownBlock) :
  Pd f now w c (L++[x.1]) (W'.setCell ⟨w.heap.size+2,0,none⟩ v')/\KeepsFrom (w.heap.size+3) W (W'.setCell ⟨w.heap.size+2,0,none⟩ v'):=by
 obtain⟨u,h1,h2⟩:=h.bl;have a:∀k,v.ownBlock=some k->dX W k 53:=ho.ty;have s:∀k,v.ownBlock=some k->dX W k 53/\eQ<=k:=fun k e=>⟨ho.ty k e,by have:=(ho.lt k e).1;have:=h.top;omega⟩;have l:=h1.grown b a D;have m:=h.cn.grown b s;have g:lh (w.heap.size+2) W' (W'.setCell ⟨w.heap.size+2,0,none⟩ v'):=(lh.refl _ _).setCell 0 v';have y:=h.size
 have z:KeepsFrom (w.heap.size+3) W (W'.setCell ⟨w.heap.size+2,0,none⟩ v'):=by
  refine⟨L8 b.size g.size,fun k o A n p=> ?_⟩;have i:=(L6.1 n).1;rw[g.block k (Lb i b.size) O,b.block k i (fun e=> ?_)]
  ·exact n
  obtain⟨C,E,q⟩:=a k e.symm;rw[n]at q
  cases q
  cases p
 refine⟨⟨m.beside l.ty g (by have:=h.top;omega) D D D D D D D,h.ok,(h.bc.grown b a D).other O _ _,(h.bn.grown b a D).other O _ _,⟨v',l.set v',?_⟩,(h.ch.grown b (fun k e=>by have:=(ho.lt k e).1;omega)).GE O _ _,h.top⟩,z⟩;refine⟨M++[x],by rw[LN,r];rfl,j.keep g.size (aG.BS g l.ty D) (fun k e=>g.block k (j.lt k e).2 (by have:=(j.lt k e).1;omega))⟩
end Pd
end
section
open Go.RowKit Go.Shelf
def iN (c:Cn):Nat:=(aD (c.sc.lost c.gi)).toNat
def AG (c:Cn)(x:Sp):Cn:={ c.qn with sc:=c.sc.ret (aK c.gi x),tm:=c.tm.og }
theorem pY {c:Cn}(ok:c.Ok):0<=aD (c.sc.lost c.gi)/\aD (c.sc.lost c.gi)<=c.flight/\aD (c.sc.lost c.gi)<=1099511627776:=by
 have a:=ok.gi;obtain⟨p1,-,-⟩:=km ok.sc (m:=c.gi) O;have b:=aN ok.sc.DX;have e:=aN (bw ok.sc (m:=c.gi) O).1;unfold Cn.flight;omega
theorem kC {c:Cn}(ok:c.Ok):iN c<c.flight.toNat+1:=by
 have:=pY ok;unfold iN;omega
theorem pZ {c:Cn}(ok:c.Ok){x:Sp}{t:List Sp}(hl:c.sc.lost c.gi=x::t) :
  c.sc.DY (aK c.gi x)=0/\iN (AG c x)<iN c/\(AG c x).Ok/\0<=x.1/\x.1<=(aK c.gi x).2/\(aK c.gi x).2<=1099511627776:=by
 have j:=ok.gi;have g:x∈c.sc.lost c.gi:=by rw[hl];simp
 obtain⟨h,k,l,-⟩:=dz ok.sc (m:=c.gi) O g;unfold ib at h;have h0:=ok.sc.u0;have n:=ok.sc.n40;have a:(aK c.gi x).2=min x.2 (x.1+c.gi):=Z;obtain⟨b,i,-⟩:=mL ok.sc (m:=c.gi) O g (x:=aK c.gi x) Z (by rw[a];show x.1<_;omega) Jh;have o:=pY ok;refine⟨by unfold Sc.DY;rw[L7 b],?_,(ok.qn.D7 (ok.sc.ret _)).Dk (Tm.tv ok.tm),O,Jh,Jh⟩;unfold iN
 have e:(AG c x).sc.lost (AG c x).gi=(c.sc.BR (aK c.gi x)).lost c.gi:=by
  show(c.sc.ret (aK c.gi x)).lost c.gi=_;unfold Sc.ret;rw[L7 b]
 rw[e,i];have h1:(aK c.gi x).1=x.1:=Z;have h2:=aN (bw (ok.sc.BR b) (m:=c.gi) O).1;omega
theorem jZ {c:Cn}(ok:c.Ok){x:Sp}{t:List Sp}(a:c.sc.pipe c.gi<c.cg.win)(hl:c.sc.lost c.gi=x::t)(k:Nat)(l:List Sg):n7 (k+1) c l=n7 k (AG c x) (l++[c.kZ x.1 (aK c.gi x).2]):=by
 rw[n7,L7 a,hl];dsimp only;rw[L7 (pZ ok hl).1];rfl
theorem j0 {c:Cn}(h:gO c)(k:Nat)(l:List Sg):n7 k c l=(c,l):=by
 cases k with
 | zero=>rfl
 | succ k =>
  rw[n7];split
  ·rename_i a
   cases hl:c.sc.lost c.gi with
   | nil=>rfl
   | cons x t=>exact absurd ⟨a,by rw[hl];simp⟩ h
  rfl
def I1 (f:Fp)(now:Int)(w:World)(C:Nat)(R:Cn×List Sg)(s:Cn×List Sg)(W:World):Prop :=
 Pd f now w s.1 s.2 W/\zt C f.C 32 W/\s.2.length+iN s.1<=1099511627776/\∃k,iN s.1<k/\n7 k s.1 s.2=R
theorem Bu {f:Fp}{now:Int}{w:World}{C:Nat}{R:Cn×List Sg}{B:Nat}(g:w.heap.size<=B):OwnFrom B (I1 f now w C R):=fun _ _ _ _ h b a =>
 ⟨h.1.marks b (fun r e=>⟨L8 g (a r e).1,(a r e).2⟩),h.2.1.marks b (fun r e=>(a r e).2),h.2.2⟩
theorem yd {f:Fp}{now:Int}{w:World}{C:Nat}{R s:Cn×List Sg}{W W':World}(h:I1 f now w C R s W)(a:Below W.heap.size W W'):I1 f now w C R s W':=⟨h.1.below a,h.2.1.below a,h.2.2⟩
def fW (s:Cn×List Sg×Bool):Nat:=s.1.iq.toNat
def i7 (b:Bool):Nat:=if b=true then 0 else 1
def I2 (f:Fp)(now:Int)(w:World)(C:Nat)(R:Cn×List Sg)(s:Cn×List Sg×Bool)(W:World):Prop :=
 Pd f now w s.1 s.2.1 W/\zt C f.C 32 W/\s.2.1.length+fW s+i7 s.2.2<=1200000000000/\(if s.2.2=true then(s.1,s.2.1)=R/\s.1.next=s.1.last+1 else ∃k,fW s<k/\ug now (kr now k s.1 s.2.1).1 (kr now k s.1 s.2.1).2=R)
theorem Bv {f:Fp}{now:Int}{w:World}{C:Nat}{R:Cn×List Sg}{B:Nat}(g:w.heap.size<=B):OwnFrom B (I2 f now w C R):=fun _ _ _ _ h b a =>
 ⟨h.1.marks b (fun r e=>⟨L8 g (a r e).1,(a r e).2⟩),h.2.1.marks b (fun r e=>(a r e).2),h.2.2⟩
theorem ye {f:Fp}{now:Int}{w:World}{C:Nat}{R:Cn×List Sg}{s:Cn×List Sg×Bool}{W W':World}(h:I2 f now w C R s W)(a:Below W.heap.size W W'):I2 f now w C R s W':=⟨h.1.below a,h.2.1.below a,h.2.2⟩
theorem yf (f:Fp)(w:World) :
  Calls Tryz.prog 135 #[f.C] w fun e w'=>e= .returned (.func (.func 166) #[] #[w.heap.size])/\w'=w.alloc (.cells #[f.C] 32):=by
 go_enter Tryz.func135,Tryz.ntmps135
 go_wp2
 go_ret;exact⟨Z,Z⟩
theorem vy (f:Fp)(w:World) :
  Calls Tryz.prog 138 #[f.C] w fun e w'=>e= .returned (.func (.func 171) #[] #[w.heap.size])/\w'=w.alloc (.cells #[f.C] 32):=by
 go_enter Tryz.func138,Tryz.ntmps138
 go_wp2
 go_ret;exact⟨Z,Z⟩
theorem mp {c:Cn}(ok:c.Ok){now v:Int}(g:C6 c v):0<=v/\v<=1000/\(0<v->(c.out now v).iq.toNat<c.iq.toNat):=by
 have m:=ok.gi;have i:=ok.E7
 rcases g with⟨h1,rfl⟩ | ⟨-,-,rfl⟩
 ·refine⟨O,O,fun _=> ?_⟩
  have j:c.allowed<=c.iq:=by
   have:=ok.iq;unfold Cn.allowed;split
   ·omega
   split
   ·omega
   split <;> omega
  have n:=ok.fM;have o:=ok.b1;have a:(c.out now c.allowed).last=c.last:=JA
  have k:c.iq=max 0 (c.last-c.next):=Z;have l:c.next+c.allowed<=c.kn c.allowed/\c.kn c.allowed<=c.next+c.allowed+1:=by unfold Cn.kn;split <;> omega
  have b:(c.out now c.allowed).next=c.kn c.allowed:=by
   show(c.sc.sent (c.kn c.allowed)).next=_;unfold Sc.sent Sc.BV;have e:c.sc.next=c.next:=Z;rw[L7 (Lc ⟨O,O⟩)]
  unfold Cn.iq at *;rw[a,b];omega
 exact⟨O,O,fun h=>absurd h D⟩
theorem ss {c:Cn}(h:c.next=c.last+1){v:Int}(a:C6 c v):False:=by
 have b:c.allowed<=max 0 c.iq:=by
  unfold Cn.allowed;split
  ·omega
  split
  ·omega
  split <;> omega
 have e:c.iq=max 0 (c.last-c.next):=Z
 rcases a with⟨h1,-⟩ | ⟨-,h2,-⟩ <;> omega
theorem Ag {now:Int}{R:Cn×List Sg}{s:Cn×List Sg×Bool}{v:Int}(ok:s.1.Ok)(j:C6 s.1 v)(h:if s.2.2=true then(s.1,s.2.1)=R/\s.1.next=s.1.last+1 else ∃k,fW s<k/\ug now (kr now k s.1 s.2.1).1 (kr now k s.1 s.2.1).2=R) :
  (0<v->fW (s.1.out now v,s.2.1++[s.1.kl v],decide (v=0))<fW s) /\
  (if decide (v=0)=true then(s.1.out now v,s.2.1++[s.1.kl v])=R/\(s.1.out now v).next=(s.1.out now v).last+1 else ∃k,fW (s.1.out now v,s.2.1++[s.1.kl v],decide (v=0))<k/\ug now (kr now k (s.1.out now v) (s.2.1++[s.1.kl v])).1 (kr now k (s.1.out now v) (s.2.1++[s.1.kl v])).2=R) /\
  (s.2.1++[s.1.kl v]).length+fW (s.1.out now v,s.2.1++[s.1.kl v],decide (v=0))+i7 (decide (v=0))<=s.2.1.length+fW s+i7 s.2.2:=by
 obtain⟨u,f2,f3⟩:=mp ok (now:=now) j;refine⟨f3,?_⟩;rw[La,Mo];by_cases i:s.2.2=true
 ·rw[L7 i]at h;exact(ss h.2 j).elim
 rw[L5 i]at h;obtain⟨k,o,a⟩:=h;obtain⟨l,rfl⟩:∃l,k=l+1:=⟨k-1,O⟩
 rcases j with⟨h1,rfl⟩ | ⟨h1,h2,rfl⟩
 ·rw[L5 IH];have x:=f3 h1;have b:i7 (decide (s.1.allowed=0))=1:=by unfold i7;rw[L5 IH]
  have m:i7 s.2.2=1:=by unfold i7;rw[L5 i]
  refine⟨⟨l,by unfold fW at o|-;dsimp only;omega,?_⟩,by rw[b,m];unfold fW;dsimp only;omega⟩;rw[kr,L7 h1]at a;exact a
 rw[L7 FE];rw[kr,L5 O]at a;dsimp only at a;unfold ug at a;rw[L7 h2]at a;have b:i7 (decide ((0:Int)=0))=0:=Z;have m:i7 s.2.2=1:=by unfold i7;rw[L5 i]
 have g:(s.1.out now 0).last=s.1.last:=JA
 have y:=ok.fM;have z:=ok.b1;have p:s.1.kn 0=s.1.next+1:=by unfold Cn.kn;rw[L7 ⟨h2.1,O⟩];omega
 have n:(s.1.out now 0).next=s.1.kn 0:=by
  show(s.1.sc.sent (s.1.kn 0)).next=_;unfold Sc.sent Sc.BV;have e:s.1.sc.next=s.1.next:=Z;rw[L7 (Lc ⟨O,O⟩)]
 have q:(s.1.out now 0).next=(s.1.out now 0).last+1:=by rw[g,n];omega
 refine⟨⟨a,q⟩,?_⟩;rw[b,m];have r:(s.1.out now 0).iq=max 0 ((s.1.out now 0).last-(s.1.out now 0).next):=Z;unfold fW;dsimp only;omega
theorem Ah {now:Int}{R:Cn×List Sg}{s:Cn×List Sg×Bool}(hd:yb s.1 (s.2.2=true))(h:if s.2.2=true then(s.1,s.2.1)=R/\s.1.next=s.1.last+1 else ∃k,fW s<k/\ug now (kr now k s.1 s.2.1).1 (kr now k s.1 s.2.1).2=R):(s.1,s.2.1)=R:=by
 by_cases b:s.2.2=true
 ·rw[L7 b]at h;exact h.1
 rw[L5 b]at h;obtain⟨k,g,a⟩:=h
 rcases hd with hd | ⟨h1,h2⟩
 ·exact absurd hd b
 obtain⟨e,rfl⟩:∃e,k=e+1:=⟨k-1,O⟩;rw[kr,L5 O]at a;dsimp only at a;unfold ug at a;rw[L5 h2]at a;exact a
end
end Go.Proofs.YtcmncipikdpnbaaGreatDoor
